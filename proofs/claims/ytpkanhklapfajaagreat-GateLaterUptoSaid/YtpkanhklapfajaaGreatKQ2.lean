import Derived.WalkKit
import Derived.WalkSpells
import Derived.WalkLawsBesides
import Derived.Deep.LoopGhost
import Derived.ChangeKeysEq
import Derived.Still
import Derived.Lib.AppendZeros
import Derived.Laws.StructEq
import Derived.OpenShut
import Derived.Scope
import Derived.Shelf.SlSortCmp.Kit1
import Derived.Shelf.SlSortCmp.InsertionK
import Derived.Lib.SlicesCompact
import Derived.ProofKit
import Derived.ChangeSame
import Derived.Carry
import Derived.SliceStrings
import Derived.ChangeMaps5
import Derived.Deep.Slices
import Derived.Test.YtpkanhklapfajaaGreatRows
import Derived.Shelf.Abstract
import Derived.Shelf.SlSortCmp.WholeK
import Derived.Shelf.SlSortCmp.Whole1
import Derived.Shelf.SlSortCmp.NoneTotal
import Derived.Deep.RegionLaw
import Derived.Lib.Walk
import Derived.Lib.Overlaps
import Derived.Lib.AppendZerosOnto
import Derived.Laws.CopyRow
import Derived.Test.YtpkanhklapfajaaGreatKQ1
set_option maxRecDepth 20000
set_option maxHeartbeats 16000000
set_option linter.unusedVariables false
set_option linter.unusedSimpArgs false
namespace Go.Abs
open Go Go.RowKit
variable {P:Program} {w0:World} {p0:Hp}
def kept (ok:Nat→Bool) (m:Mem) (l:List (Nat×AV)):List (Nat×AV)→Prop
  | []=>True
  | (t,a')::r=>(∃ a,lk l t=some a∧a.only ok m=a')∧kept ok m l r
theorem aJo {ok:Nat→Bool} {m:Mem} {l:List (Nat×AV)}:∀ {l':List (Nat×AV)},kept ok m l l'→∀ t a',bL l' t=some a'→∃ a,bL l t=some a∧a.only ok m=a'
  | [],_,_,_,h=>by simp [bL] at h
  | (t0,a0)::r,h,t,a',hl=>by
    simp only[bL] at hl
    split at hl
    · rename_i e; subst e; cases hl
      obtain ⟨a,h1,h2⟩:=h.1
      exact⟨a,by rw[← lL]; exact h1,h2⟩
    · exact aJo h.2 t a' hl
theorem pH {n:Nat} {sl sl':List (Nat×AV)} {m m':Mem} (ok:Nat→Bool) (h:kept ok m sl sl') (hm:Mem.only ok m m=m'):Le ⟨n,sl,m⟩ ⟨n,sl',m'⟩:=by
  subst hm
  refine(Le.only ok ⟨n,sl,m⟩).trans ?_
  intro w0 p0 a w ⟨h1,h2,p,hE,hs,hm⟩
  refine⟨h1,h2,p,hE,fun t a' ht=>?_,hm⟩
  obtain ⟨b,hb1,hb2⟩:=aJo h t a' ht
  refine hs t a' ?_
  show bL (sl.map fun x=>(x.1,x.2.only ok m)) t=some a'
  rw[sW m (fun x=>x.only ok m),hb1,← hb2]; rfl
def nee (g x:Nat):Bool:=match Nat.beq x g with | true=>false | false=>true
inductive TD where
  | bool
  | int (k:IntKind)
  | str
  | sl (b:Nat) (d:TD)
  | agg (ds:List TD)
  deriving Inhabited
mutual
def TD.n:TD→Nat
  | .agg ds=>TD.nL ds
  | .bool=>1
  | .int _=>1
  | .str=>1
  | .sl _ _=>1
def TD.nL:List TD→Nat
  | []=>0
  | d::r=>d.n+TD.nL r
end
def kL (P:Program) (f:TypeId→Option TD):Nat→List (Nat×TypeId)→Option (List TD)
  | _,[]=>some []
  | o,(off,t)::r=>match f t with
    | some d=>if off=o∧d.n=P.cellsOf t then (kL P f (o+d.n) r).map (d::·) else none
    | none=>none
def tdOf? (P:Program):Nat→TypeId→Option TD
  | 0,_=>none
  | n+1,t=>match P.underlying t with
    | some .bool=>some .bool
    | some (.int k)=>some (.int k)
    | some .string=>some .str
    | some (.slice e)=>match tdOf? P n e with
      | some d=>if d.n=P.cellsOf e∧0<d.n then some (.sl (P.bytesOf e) d) else none
      | none=>none
    | some (.struct fs)=>match kL P (tdOf? P n) 0 (fs.toList.map fun f=>(f.offset,f.type)) with
      | some ds=>if TD.nL ds=P.cellsOf t then some (.agg ds) else none
      | none=>none
    | some (.array m e)=>match kL P (tdOf? P n) 0 ((List.range m).map fun i=>(i*P.cellsOf e,e)) with
      | some ds=>if TD.nL ds=P.cellsOf t then some (.agg ds) else none
      | none=>none
    | _=>none
mutual
def EqTy:TD→List Value→List Value→Bool→Prop
  | .bool,xs,ys,r=>∃ a b,xs=[.bool a]∧ys=[.bool b]∧r=(a == b)
  | .int k,xs,ys,r=>∃ a b,xs=[.int k a]∧ys=[.int k b]∧r=(a == b)
  | .str,xs,ys,r=>∃ a b:ByteArray,xs=[.string a]∧ys=[.string b]∧r=(a.toList == b.toList)
  | .sl _ _,_,_,_=>False
  | .agg ds,xs,ys,r=>EqTyL ds xs ys r
def EqTyL:List TD→List Value→List Value→Bool→Prop
  | [],xs,ys,r=>xs=[]∧ys=[]∧r=true
  | d::ds,xs,ys,r=>∃ a b c e q s,xs=a++b∧ys=c++e∧EqTy d a c q∧EqTyL ds b e s∧r=(q&&s)
end
theorem aA7:∀ (k:Nat) (d:TD),SizeOf.sizeOf d<k→∀ xs ys r,EqTy d xs ys r→xs.length=d.n∧ys.length=d.n
  | 0,d,h,_,_,_,_=>by omega
  | k+1,.bool,_,xs,ys,r,⟨a,b,h1,h2,_⟩=>by subst h1; subst h2; simp [TD.n]
  | k+1,.int _,_,xs,ys,r,⟨a,b,h1,h2,_⟩=>by subst h1; subst h2; simp [TD.n]
  | k+1,.str,_,xs,ys,r,⟨a,b,h1,h2,_⟩=>by subst h1; subst h2; simp [TD.n]
  | k+1,.sl _ _,_,xs,ys,r,h=>h.elim
  | k+1,.agg ds,hk,xs,ys,r,h=>by
    simp only[TD.n]
    simp only[EqTy] at h
    have:∀ (ds:List TD),SizeOf.sizeOf ds<k→∀ xs ys r,EqTyL ds xs ys r→xs.length=TD.nL ds∧ys.length=TD.nL ds:=by
      intro ds
      induction ds with
      | nil=>intro _ xs ys r h; simp only[EqTyL] at h; obtain ⟨rfl,rfl,_⟩:=h; simp [TD.nL]
      | cons d rest ih =>
        intro hs xs ys r h
        simp only[EqTyL] at h
        obtain ⟨a,b,c,e,q,s,rfl,rfl,h1,h2,_⟩:=h
        have i1:=aA7 k d (by simp at hs; omega) a c q h1
        have i2:=ih (by simp at hs; omega) b e s h2
        simp [TD.nL,i1,i2]
    exact this ds (by simp at hk; omega) xs ys r h
theorem aXu {d:TD} {xs ys:List Value} {r:Bool} (h:EqTy d xs ys r):xs.length=d.n∧ys.length=d.n:=aA7 _ d (Nat.lt_succ_self _) xs ys r h
def zQ (d:Nat) (xs ys:Array Value):List (Nat×TypeId)→Sem Bool
  | []=>pure true
  | (o,t)::r=>do
    let a ← part t xs o
    let b ← part t ys o
    let q ← Op.equalIn d t a b
    if (!q)=true then pure false else zQ d xs ys r
theorem yS (d:Nat) (xs ys:Array Value):∀ fs:List Field,(∀ f∈fs,f.name≠"_")→Op.eqFields d xs ys fs=zQ d xs ys (fs.map fun f=>(f.offset,f.type))
  | [],_=>rfl
  | f::fs,h=>by
    simp only[Op.eqFields,List.map_cons,zQ]
    rw[if_pos (h f (by simp)),yS d xs ys fs (fun g hg=>h g (by simp [hg]))]
theorem aA8 (d:Nat) (e:TypeId) (c:Nat) (xs ys:Array Value):∀ is:List Nat,Op.eqItems d e c xs ys is=zQ d xs ys (is.map fun i=>(i*c,e))
  | []=>rfl
  | i::is=>by
    simp only[Op.eqItems,List.map_cons,zQ]
    rw[aA8 d e c xs ys is]
def TD.val:TD→List Value→Value
  | .agg _,cs=>.agg cs.toArray
  | _,cs=>cs.headD undef
theorem aCq {n:Nat} {t:TypeId} {d:TD} (ht:tdOf? P n t=some d) (hn:d.n=P.cellsOf t) (a:List Value) (ha:a.length=d.n) (w:World) (i:TypeInfo) (hi:P.info? t=some i) (pre post:List Value) :
    (part t (pre++a++post).toArray pre.length).run P w=.ok (d.val a) w:=by
  cases n with
  | zero=>simp [tdOf?] at ht
  | succ n =>
    have hag:(∃ ds,d=.agg ds∧agg? P t=some true)∨((∀ cs,d.val cs=cs.headD undef)∧d.n=1∧agg? P t=some false):=by
      unfold tdOf? at ht
      unfold agg?
      split at ht
      all_goals first
        | (rename_i hu; rw[hu]; cases ht; exact .inr ⟨fun _=>rfl,rfl,rfl⟩)
        | (rename_i hu; rw[hu]; split at ht; (split at ht; (first | (cases ht; exact .inr ⟨fun _=>rfl,rfl,rfl⟩) | (cases ht; exact .inl ⟨_,rfl,rfl⟩) | cases ht); cases ht); cases ht)
        | cases ht
    rcases hag with ⟨ds,rfl,hag⟩ | ⟨hv,h1,hag⟩
    · have hc:cells? P t=some (TD.agg ds).n:=by
        unfold cells?
        rw[hi,hn]
        simp [Program.cellsOf,hi]
      rw[aIy hag hc]
      simp only[TD.val]
      congr 2
      rw[← ha]
      apply Array.ext_getElem?
      intro j
      rw[Array.getElem?_extract]
      simp only[List.getElem?_toArray,List.size_toArray,List.length_append]
      by_cases hj:j<a.length
      · rw[if_pos (by omega),List.append_assoc,List.getElem?_append_right (by omega),Nat.add_sub_cancel_left,List.getElem?_append_left hj]
      · rw[if_neg (by omega),List.getElem?_eq_none (by omega)]
    · rw[hv]
      match a,ha.trans h1 with
      | [v],_ =>
        rw[aIz hag (v:=v)]
        · rfl
        · simp
theorem aFk (f:TypeId→Option TD) (dd:Nat) (w:World) (hf:∀ t d,f t=some d→∃ n,tdOf? P n t=some d) (ok:TypeId→Prop)
    (IH:∀ t d,f t=some d→ok t→∀ xs ys r,EqTy d xs ys r→(Op.equalIn dd t (d.val xs) (d.val ys)).run P w=.ok r w) :
    ∀ (segs:List (Nat×TypeId)) (o:Nat) (ds:List TD),kL P f o segs=some ds→(∀ s∈segs,ok s.2∧(P.info? s.2).isSome=true) →
      ∀ (pre pre' xs ys:List Value) (r:Bool),pre.length=o→pre'.length=o→EqTyL ds xs ys r→(zQ dd (pre++xs).toArray (pre'++ys).toArray segs).run P w=.ok r w:=by
  intro segs
  induction segs with
  | nil =>
    intro o ds h _ pre pre' xs ys r _ _ he
    simp only[kL,Option.some.injEq] at h
    subst h
    simp only[EqTyL] at he
    obtain ⟨_,_,rfl⟩:=he
    rfl
  | cons s rest ih =>
    intro o ds h hok pre pre' xs ys r h1 h2 he
    obtain ⟨off,t⟩:=s
    simp only[kL] at h
    split at h
    · rename_i d hd
      split at h
      · rename_i hc
        obtain ⟨rfl,hn⟩:=hc
        cases hr:kL P f (off+d.n) rest with
        | none=>simp [hr] at h
        | some es =>
          simp only[hr,Option.map_some,Option.some.injEq] at h
          subst h
          simp only[EqTyL] at he
          obtain ⟨a,b,c,e,q,s,rfl,rfl,he1,he2,rfl⟩:=he
          obtain ⟨hokt,hin⟩:=hok (off,t) (by simp)
          obtain ⟨i,hi⟩:=Option.isSome_iff_exists.1 hin
          obtain ⟨m,hm⟩:=hf t d hd
          obtain ⟨l1,l2⟩:=aXu he1
          have p1:=aCq hm hn a l1 w i hi pre b
          have p2:=aCq hm hn c l2 w i hi pre' e
          rw[h1] at p1
          rw[h2] at p2
          have p3:=IH t d hd hokt a c q he1
          have p4:=ih (off+d.n) es hr (fun s hs=>hok s (by simp [hs])) (pre++a) (pre'++c) b e s (by simp [h1,l1]) (by simp [h2,l2]) he2
          simp only[List.append_assoc] at p1 p2 p4
          simp only[zQ,Sem.run_bind,p1,p2,p3,Result.andThen_ok]
          cases q
          · simp
          · simpa using p4
      · cases h
    · cases h
theorem aFj (D:Nat):∀ (n:Nat) (t:TypeId) (d:TD),tdOf? P n t=some d→P.keyTypeAt n t=true→∀ (w:World) (xs ys:List Value) (r:Bool),EqTy d xs ys r →
    (Op.equalIn (D+n) t (d.val xs) (d.val ys)).run P w=.ok r w:=by
  intro n
  induction n with
  | zero=>intro t d h; simp [tdOf?] at h
  | succ n ih =>
    intro t d h hk w xs ys r he
    unfold tdOf? at h
    unfold Program.keyTypeAt at hk
    have info_of:∀ (fs:List (Nat×TypeId)) (o:Nat) (ds:List TD),kL P (tdOf? P n) o fs=some ds→∀ s∈fs,(P.info? s.2).isSome=true:=by
      intro fs
      induction fs with
      | nil=>intro o ds _ s hs; simp at hs
      | cons a r iha =>
        intro o ds h s hs
        obtain ⟨off,t⟩:=a
        simp only[kL] at h
        split at h
        · rename_i d hd
          split at h
          · cases hr:kL P (tdOf? P n) (o+d.n) r with
            | none=>simp [hr] at h
            | some es =>
              rcases List.mem_cons.1 hs with rfl | hs
              · cases n with
                | zero=>simp [tdOf?] at hd
                | succ m =>
                  unfold tdOf? at hd
                  cases hu:P.underlying t with
                  | none=>rw[hu] at hd; cases hd
                  | some u =>
                    simp only[Program.underlying] at hu
                    cases hi:P.info? t with
                    | none=>simp [hi] at hu
                    | some i=>rfl
              · exact iha _ es hr s hs
          · cases h
        · cases h
    split at h
    · rename_i ht; cases h
      simp only[EqTy] at he
      obtain ⟨a,b,rfl,rfl,rfl⟩:=he
      exact tF _ ht a b w
    · rename_i k ht; cases h
      simp only[EqTy] at he
      obtain ⟨a,b,rfl,rfl,rfl⟩:=he
      exact run_equalIn_int w _ t k k a b ht
    · rename_i ht; cases h
      simp only[EqTy] at he
      obtain ⟨a,b,rfl,rfl,rfl⟩:=he
      exact run_equalIn_string w _ t a b ht
    · rename_i e ht; rw[ht] at hk; cases hk
    · rename_i fs ht
      rw[ht] at hk
      split at h
      · rename_i ds hds
        split at h
        · rename_i hn
          cases h
          simp only[EqTy] at he
          simp only[Bool.and_eq_true,Bool.not_eq_true',Array.all_eq_true'] at hk
          obtain ⟨⟨hall,_⟩,hst⟩:=hk
          have hfo:P.fieldsOf t=fs:=by simp [Program.fieldsOf,ht]
          simp only[TD.val]
          rw[show D+(n+1)=(D+n)+1 from rfl,run_equalIn_struct w (D+n) t xs.toArray ys.toArray (by rw[hfo]; exact ht) (by simpa using hst),hfo,yS]
          · have:=aFk (tdOf? P n) (D+n) w (fun t d h=>⟨n,h⟩) (fun t=>P.keyTypeAt n t=true) (fun t d h hk xs ys r he=>ih t d h hk w xs ys r he) _ 0 ds hds (fun s hs=>by
              refine⟨?_,info_of _ 0 ds hds s hs⟩
              obtain ⟨f,hf,rfl⟩:=List.mem_map.1 hs
              have:=hall f (by simpa using hf)
              exact this.2) [] [] xs ys r rfl rfl he
            simpa using this
          · intro f hf
            have:=hall f (by simpa using hf)
            simpa using this.1
        · cases h
      · cases h
    · rename_i m e ht
      rw[ht] at hk
      split at h
      · rename_i ds hds
        split at h
        · rename_i hn
          cases h
          simp only[EqTy] at he
          simp only[TD.val]
          cases m with
          | zero =>
            simp only[List.range_zero,List.map_nil,kL,Option.some.injEq] at hds
            subst hds
            simp only[EqTyL] at he
            obtain ⟨rfl,rfl,rfl⟩:=he
            have hsz:∃ i,P.info? e=some i:=by
              cases n with
              | zero=>simp [Program.keyTypeAt] at hk
              | succ q =>
                cases hu:P.underlying e with
                | none=>exfalso; unfold Program.keyTypeAt at hk; simp [hu] at hk
                | some u =>
                  simp only[Program.underlying] at hu
                  cases hi:P.info? e with
                  | none=>simp [hi] at hu
                  | some i=>exact⟨i,rfl⟩
            obtain ⟨i,hi⟩:=hsz
            rw[show D+(n+1)=(D+n)+1 from rfl,run_equalIn_array w (D+n) _ _ ht hi]
            rfl
          | succ m =>
            have hin:=info_of _ 0 ds hds (0*P.cellsOf e,e) (List.mem_map.2 ⟨0,by simp,rfl⟩)
            obtain ⟨i,hi⟩:=Option.isSome_iff_exists.1 hin
            rw[show D+(n+1)=(D+n)+1 from rfl,run_equalIn_array w (D+n) _ _ ht hi,aA8]
            have:=aFk (tdOf? P n) (D+n) w (fun t d h=>⟨n,h⟩) (fun t=>P.keyTypeAt n t=true) (fun t d h hk xs ys r he=>ih t d h hk w xs ys r he) _ 0 ds hds (fun s hs=>by
              refine⟨?_,info_of _ 0 ds hds s hs⟩
              obtain ⟨f,hf,rfl⟩:=List.mem_map.1 hs
              exact hk) [] [] xs ys r rfl rfl he
            simpa using this
        · cases h
      · cases h
    · cases h
def eqT? (P:Program) (t:TypeId):Option TD:=if P.keyTypeAt 16 t&&!P.eqGuardType P.depth t then tdOf? P 16 t else none
def aeq1 (d:TD) (x y:AV):Option Bool:=match d with
  | .int k=>match x,y with
    | .s (.int k1 a),.s (.int k2 b)=>if k1=k∧k2=k then some (a == b) else none
    | _,_=>none
  | .str=>match x,y with
    | .s (.string a),.s (.string b)=>some (a.toList == b.toList)
    | _,_=>none
  | .bool=>match x,y with
    | .s (.bool a),.s (.bool b)=>some (a == b)
    | _,_=>none
  | _=>none
def aYd (d:TD) (xs ys:List AV):Option (Bool×List AV×List AV):=match xs,ys with
  | x::xs,y::ys=>match aeq1 d x y with | some r=>some (r,xs,ys) | none=>none
  | _,_=>none
theorem aG7 {d:TD} {xs ys xs' ys':List AV} {r:Bool} (h:aYd d xs ys=some (r,xs',ys')):∃ xas bs:List Value,xs=xas.map .s++xs'∧ys=bs.map .s++ys'∧EqTy d xas bs r:=by
  unfold aYd at h
  split at h
  · split at h
    · rename_i q hq
      cases h
      unfold aeq1 at hq
      split at hq
      · split at hq
        · split at hq
          · rename_i hk
            obtain ⟨rfl,rfl⟩:=hk
            cases hq
            exact⟨[_],[_],rfl,rfl,by simp only[EqTy]; exact⟨_,_,rfl,rfl,rfl⟩⟩
          · cases hq
        · cases hq
      · split at hq
        · cases hq
          exact⟨[_],[_],rfl,rfl,by simp only[EqTy]; exact⟨_,_,rfl,rfl,rfl⟩⟩
        · cases hq
      · split at hq
        · cases hq
          exact⟨[_],[_],rfl,rfl,by simp only[EqTy]; exact⟨_,_,rfl,rfl,rfl⟩⟩
        · cases hq
      · cases hq
    · cases h
  · cases h
mutual
def aeq:TD→List AV→List AV→Option (Bool×List AV×List AV)
  | .agg ds,xs,ys=>aeqL ds xs ys
  | .int k,xs,ys=>aYd (.int k) xs ys
  | .str,xs,ys=>aYd .str xs ys
  | .bool,xs,ys=>aYd .bool xs ys
  | .sl _ _,_,_=>none
def aeqL:List TD→List AV→List AV→Option (Bool×List AV×List AV)
  | [],xs,ys=>some (true,xs,ys)
  | d::r,xs,ys=>match aeq d xs ys with
    | some (q,xs',ys')=>match aeqL r xs' ys' with | some (s,x2,y2)=>some (q&&s,x2,y2) | none=>none
    | none=>none
end
theorem aUa:∀ (k:Nat) (d:TD),SizeOf.sizeOf d<k→∀ xs ys r xs' ys',aeq d xs ys=some (r,xs',ys')→∃ xas bs:List Value,xs=xas.map .s++xs'∧ys=bs.map .s++ys'∧EqTy d xas bs r
  | 0,d,h,_,_,_,_,_,_=>by omega
  | k+1,.bool,_,xs,ys,r,xs',ys',h=>aG7 (by simpa [aeq] using h)
  | k+1,.int kd,_,xs,ys,r,xs',ys',h=>aG7 (by simpa [aeq] using h)
  | k+1,.str,_,xs,ys,r,xs',ys',h=>aG7 (by simpa [aeq] using h)
  | k+1,.sl _ _,_,xs,ys,r,xs',ys',h=>by simp [aeq] at h
  | k+1,.agg ds,hk,xs,ys,r,xs',ys',h=>by
    have h:aeqL ds xs ys=some (r,xs',ys'):=by simpa [aeq] using h
    simp only[EqTy]
    have:∀ (ds:List TD),SizeOf.sizeOf ds<k→∀ xs ys r xs' ys',aeqL ds xs ys=some (r,xs',ys')→∃ xas bs:List Value,xs=xas.map .s++xs'∧ys=bs.map .s++ys'∧EqTyL ds xas bs r:=by
      intro ds
      induction ds with
      | nil =>
        intro _ xs ys r xs' ys' h
        simp only[aeqL,Option.some.injEq,Prod.mk.injEq] at h
        obtain ⟨rfl,rfl,rfl⟩:=h
        exact⟨[],[],rfl,rfl,by simp [EqTyL]⟩
      | cons d rest ih =>
        intro hs xs ys r xs' ys' h
        simp only[aeqL] at h
        split at h
        · rename_i q x1 y1 h1
          split at h
          · rename_i s x2 y2 h2
            cases h
            obtain ⟨xas,bs,e1,e2,e3⟩:=aUa k d (by simp at hs; omega) _ _ _ _ _ h1
            obtain ⟨as',bs',f1,f2,f3⟩:=ih (by simp at hs; omega) _ _ _ _ _ h2
            exact⟨xas++as',bs++bs',by rw[e1,f1]; simp,by rw[e2,f2]; simp,by simp only[EqTyL]; exact⟨xas,as',bs,bs',q,s,rfl,rfl,e3,f3,rfl⟩⟩
          · cases h
        · cases h
    exact this ds (by simp at hk; omega) xs ys r xs' ys' h
theorem aF1 {o:Oper} {σ:St} {op:BinOp} {t yt:TypeId} {x y:Operand} {cs cs':List AV} {ds:List TD} {r b:Bool} (ho:o.op=.binOp op t x y yt) (hx:σ.ev x=.agg cs) (hy:σ.ev y=.agg cs')
    (ht:eqT? P t=some (.agg ds)) (h:aeqL ds cs cs'=some (r,[],[])) (hop:op=.eql∧b=r∨op=.neq∧b=!r):cH P o σ (.s (.bool b)):=by
  intro act w p hs _
  have h1:=dW hs x
  have h2:=dW hs y
  rw[hx] at h1
  rw[hy] at h2
  obtain ⟨xas,bs,e1,e2,e3⟩:=aUa _ (.agg ds) (Nat.lt_succ_self _) cs cs' r [] [] (by simpa [aeq] using h)
  simp only[List.append_nil] at e1 e2
  have vals:∀ (xas:List Value) v,RelV w p (.agg (xas.map .s)) v→v=.agg xas.toArray:=by
    intro xas v hv
    cases hv with
    | agg _ us hl hc =>
      congr 1
      apply Array.ext_getElem?
      intro i
      cases hi:xas[i]? with
      | none =>
        have:xas.length≤i:=by simpa using hi
        simp at hl
        have e:us.size≤i:=by omega
        simp [e,hi,this]
      | some a =>
        have hlt:=(List.getElem?_eq_some_iff.1 hi).1
        simp at hl
        have hu:us[i]?=some us[i]:=by simp
        have:=(hc i (.s a) us[i] (by simp [hi]) hu).s_inv
        have e:i<us.size:=by omega
        simp [hi,this,e]
  subst e1; subst e2
  have v1:=vals xas _ h1
  have v2:=vals bs _ h2
  refine⟨.bool b,?_,.s _⟩
  unfold eqT? at ht
  split at ht
  · rename_i hc
    simp only[Bool.and_eq_true,Bool.not_eq_true'] at hc
    have hrun:=aFj 9984 16 t _ ht hc.1 w xas bs r e3
    have hrun':(Op.equal t (.agg xas.toArray) (.agg bs.toArray)).run P w=.ok r w:=hrun
    have hg:=run_eqGuard_agg (P:=P) w op t x y xas.toArray bs.toArray hc.2
    rcases hop with ⟨rfl,rfl⟩ | ⟨rfl,rfl⟩
    · simp [execOp,ho,v1,v2,Sem.run_bind,hg,binOp,hrun']
    · simp [execOp,ho,v1,v2,Sem.run_bind,hg,binOp,hrun']
  · cases ht
section
variable {ops:Array Oper} {rest:List Oper} {n d ty:Nat} {ps:String} {af:Array Edge} {gd:Option (Nat×Bool)} {sl:List (Nat×AV)} {m:Mem} {Q:Exit→St→Prop}
theorem jS {t yt:TypeId} {x y:Operand} {cs cs':List AV} {ds:List TD} {r:Bool} (hx:ev sl x=some (.agg cs)) (hy:ev sl y=some (.agg cs')) (ht:eqT? P t=some (.agg ds)) (h:aeqL ds cs cs'=some (r,[],[])) :
    cH P ⟨some d,.binOp .eql t x y yt,ty,ps,af,gd⟩ ⟨n,sl,m⟩ (.s (.bool r)):=aF1 rfl (cR hx) (cR hy) ht h (.inl ⟨rfl,rfl⟩)
theorem p_neagg {t yt:TypeId} {x y:Operand} {cs cs':List AV} {ds:List TD} {r:Bool} (hx:ev sl x=some (.agg cs)) (hy:ev sl y=some (.agg cs')) (ht:eqT? P t=some (.agg ds)) (h:aeqL ds cs cs'=some (r,[],[])) :
    cH P ⟨some d,.binOp .neq t x y yt,ty,ps,af,gd⟩ ⟨n,sl,m⟩ (.s (.bool !r)):=aF1 rfl (cR hx) (cR hy) ht h (.inr ⟨rfl,rfl⟩)
end
end Go.Abs
set_option linter.unusedVariables false
set_option linter.unusedSimpArgs false
namespace Go.Abs
open Go Go.RowKit
variable {P:Program} {w0:World} {p0:Hp}
theorem yQ {z:Array Value} {n:Nat} {v:Value} (hz:0<z.size) (h:v∈(Builtin.zeroCells z n).toList):v∈z.toList:=by
  simp only[Builtin.zeroCells,Array.toList_map,List.mem_map,Array.toList_range] at h
  obtain ⟨i,_,rfl⟩:=h
  have hlt:i % z.size<z.size:=Nat.mod_lt _ hz
  rw[getElem!_pos z _ hlt]
  exact Array.getElem_mem_toList hlt
theorem aV0 {o:Oper} {σ:St} {K:St→Prop} (hf:Fit w0 p0) {x:Operand} {t e g k by_ off c:Nat} {xs:List (List AV)} {zs:List Value} (ho:o.op=.call { callee:=.builtin .clear,args:=#[x],argTypes:=#[t] }) (hdst:o.dst=none)
    (ht:appT? P t=some (e,k,by_)) (hz:zeros? P e=some zs) (hz1:∀ u∈zs,u.oneCell'=true) (hx:σ.ev x=.own g k off c) (hl:bL σ.mem g=some (.buf k xs))
    (hK:K { σ with mem:=mU g (.buf k (xs.take off)) σ.mem }):AOp P w0 p0 o σ K:=by
  intro a w next Q ⟨h1,h2,p,hE,hs,hm⟩ hnx
  obtain ⟨he,hck,hk0,i,z,hi,hzz,hik,hby,hzc⟩:=appT?_inv ht
  have hr:=dW hs x
  rw[hx] at hr
  generalize hv:a.eval x=v at *
  -- a world that keeps all but the cells behind
  have fin:∀ w':World,Keeps w p w' p→w'.os=w.os→w'.tape=w.tape→w'.drawn=w.drawn→w'.output=w.output→w'.heap.size=w.heap.size→(∀ b,p.A b→w'.heap[b]?=w.heap[b]?) →
      (∀ g' b,g'≠g→p.o g'=some (some b)→w'.heap[b]?=w.heap[b]?) →
      (∀ b cur T,p.o g=some (some b)→w.heap[b]?=some (.cells cur T (0,0))→∃ cur',w'.heap[b]?=some (.cells cur' T (0,0))∧cur'.size=cur.size∧∀ q,q<off*k→cur'[q]?=cur[q]?) →
      Rel w0 p0 { σ with mem:=mU g (.buf k (xs.take off)) σ.mem } (a.put none undef) w':=by
    intro w' hk e1 e2 e2' e3 e4 e5 e6 e7
    refine⟨h1,h2,p,hE.step hk e1 ⟨e2,by rw[e2']; exact Nat.le_refl _⟩ e3 (by rw[e4]; exact Nat.le_refl _) rfl (fun b _ hA=>e5 b hA) (fun g' h1 h2=>absurd h1 h2),hs.keep hk,⟨fun g' hg'=>?_,fun g' mm hg'=>?_,hm.inj,hm.avoid⟩⟩
    · rw[jE g _ σ.mem (by rw[hl]; rfl) g'] at hg'
      split at hg'
      · cases hg'
      · exact hm.dom g' hg'
    · rw[jE g _ σ.mem (by rw[hl]; rfl) g'] at hg'
      split at hg'
      · rename_i heq
        subst heq
        cases hg'
        rcases hm.holds g' _ hl with ⟨d0,d1⟩ | ⟨b,cur,T,d1,d2,d3,d4,d5⟩
        · exact .inl ⟨by rw[d0]; simp,d1⟩
        · obtain ⟨cur',f1,f2,f3⟩:=e7 b cur T d1 d2
          refine .inr ⟨b,cur',T,d1,f1,?_,fun y hy=>d4 y (List.mem_of_mem_take hy),fun j y i' c' hj hi'=>?_⟩
          · rw[f2]
            refine Nat.le_trans (Nat.mul_le_mul_right _ ?_) d3
            simp; omega
          · rw[List.getElem?_take] at hj
            split at hj
            · rename_i hjo
              obtain ⟨u,hu,hru⟩:=d5 j y i' c' hj hi'
              have hil:=(List.getElem?_eq_some_iff.1 hi').1
              rw[(d4 y (List.mem_of_getElem? hj)).1] at hil
              have hjk:(j+1)*k≤off*k:=Nat.mul_le_mul_right _ hjo
              rw[Nat.add_mul] at hjk
              exact⟨u,by rw[f3 _ (by omega)]; exact hu,hru.keep hk⟩
            · cases hj
      · rename_i hne
        exact(hm.holds g' mm hg').keep hk fun b hb=>e6 g' b hne hb
  have noop:o.upon P a next Q (.ok (.value (.tuple #[])) w):=by
    simp only[Oper.upon]
    refine hnx _ _ _ hK ?_
    rw[hdst]
    exact fin w (Keeps.refl w p) rfl rfl rfl rfl rfl (fun _ _=>rfl) (fun _ _ _ _=>rfl) (fun b cur T _ hh=>⟨cur,hh,rfl,fun _ _=>rfl⟩)
  unfold Oper.wp
  cases hr with
  | ownn _ _ hg =>
    have hrun:(execOp a.eval o).run P w=.ok (.value (.tuple #[])) w:=by
      simp [execOp,ho,resolve,invoke,builtin,Builtin.clear_,hv,run_underlying (elem?_inv he)]
    rw[hrun]; exact noop
  | own0 _ _ _ b ad hg =>
    have hrun:(execOp a.eval o).run P w=.ok (.value (.tuple #[])) w:=by
      simp [execOp,ho,resolve,invoke,builtin,Builtin.clear_,hv,run_underlying (elem?_inv he)]
    rw[hrun]; exact noop
  | own _ _ _ _ b cap cur T hg hnc hcap hh hsz =>
    by_cases hc0:c=0
    · subst hc0
      have hrun:(execOp a.eval o).run P w=.ok (.value (.tuple #[])) w:=by
        simp [execOp,ho,resolve,invoke,builtin,Builtin.clear_,hv,run_underlying (elem?_inv he)]
      rw[hrun]; exact noop
    · have hzs:zs=z.cells.toList:=by
        unfold zeros? at hz; simp [hi,hzz] at hz; exact hz.symm
      have hrz:(zeroValue e).run P w=.ok z w:=by simp [zeroValue,typeInfo,hi,hzz]
      have hlen:(Builtin.zeroCells z.cells c).toList.length=c*k:=by
        rw[Array.length_toList,size_zeroCells,hzc]
      have hfit:off*k+0+(Builtin.zeroCells z.cells c).toList.length≤cur.size:=by
        rw[hlen]
        have:c*k≤cap*k:=Nat.mul_le_mul_right _ hnc
        omega
      have hst:=run_storeCells_at P b (off*k) T (Builtin.zeroCells z.cells c).toList 0 cur w hh hfit (fun u hu=>hz1 u (by rw[hzs]; exact yQ (by rw[hzc]; exact hk0) hu))
      simp only[Nat.add_zero] at hst hfit
      generalize hcs:(cur.toList.take (off*k)++(Builtin.zeroCells z.cells c).toList++cur.toList.drop (off*k+(Builtin.zeroCells z.cells c).toList.length)).toArray=cs at hst
      have hrun:(execOp a.eval o).run P w=.ok (.value (.tuple #[])) (w.setRow b cs):=by
        simp [execOp,ho,resolve,invoke,builtin,Builtin.clear_,hv,run_underlying (elem?_inv he),hc0,hrz,hst]
      have hcsz:cs.size=cur.size:=by
        rw[← hcs]; simp only[List.size_toArray,List.length_append,List.length_take,List.length_drop]
        simp only[Array.length_toList] at hlen hfit ⊢
        omega
      have hbk:(w.setRow b cs).heap[b]?=some (.cells cs T (0,0)):=setRow_heap w b cur cs T _ hh
      have hoth:∀ b',b'≠b→(w.setRow b cs).heap[b']?=w.heap[b']?:=fun b' hne=>setRow_other w b b' cs hne
      have hwsz:(w.setRow b cs).heap.size=w.heap.size:=by simp [World.setRow]
      have hkeep:Keeps w p (w.setRow b cs) p:=by
        refine⟨fun b' hb'=>?_,fun _ _ h=>h,fun g' b' hg' cur2 T2 hh2=>?_⟩
        · have hne:b'≠b:=fun e=>hb'.2.1 g (e ▸ hg)
          exact⟨⟨by rw[hwsz]; exact hb'.1,hb'.2⟩,hoth b' hne⟩
        · by_cases hne:b'=b
          · subst hne; rw[hh] at hh2; cases hh2; exact⟨cs,hbk,hcsz⟩
          · exact⟨cur2,by rw[hoth b' hne]; exact hh2,rfl⟩
      rw[hrun]
      simp only[Oper.upon]
      refine hnx _ _ _ hK ?_
      rw[hdst]
      refine fin _ hkeep rfl rfl rfl rfl hwsz (fun b' hA=>hoth b' (fun e=>hm.avoid g b hg (e ▸ hA))) (fun g' b' hne hb'=>hoth b' (fun e=>hne (hm.inj g' g b (e ▸ hb') hg))) (fun b' cur' T' hb' hh'=>?_)
      rw[hg] at hb'; cases hb'
      rw[hh] at hh'; cases hh'
      refine⟨cs,hbk,hcsz,fun q hq=>?_⟩
      rw[← hcs]
      have:q<(cur.toList.take (off*k)).length:=by
        simp
        have:off*k+cap*k≤cur.size:=hsz
        omega
      rw[List.append_assoc,List.getElem?_toArray,List.getElem?_append_left this,List.getElem?_take,if_pos hq]
      simp
theorem aOt {o:Oper} {σ:St} {K:St→Prop} (hf:Fit w0 p0) {s x:Operand} {t tn e k by_ d:Nat} {kn kx:IntKind} {n:Nat} (ho:o.op=.call { callee:=.builtin .append,args:=#[s,x],argTypes:=#[t,tn] }) (hdst:o.dst=some d) (hd:d<σ.n) (hfr:σ.fresh d)
    (ht:appT? P t=some (e,k,by_)) (htn:P.underlying tn=some (.int kn)) (hs:σ.ev s=.s (.slice none 0 0)) (hx:σ.ev x=.s (.int kx n)) (hn0:0<n) (hby:n*by_≤140737488355328) (hmax:n≤maxLen)
    (hK:K ({ σ with mem:=(d,.buf k [])::σ.mem }.put d (.own d k 0 n))):AOp P w0 p0 o σ K:=by
  intro a w next Q hr hnx
  obtain ⟨he,hck,hk0,i,z,hi,hz,rfl,rfl,hzc⟩:=appT?_inv ht
  have hslots:∀ p,SlotsRel w p σ.slots a.tmps→a.eval s=.slice none 0 0∧a.eval x=.int kx n:=fun p hsl=>⟨oL hsl hs,oL hsl hx⟩
  have hr0:=hr
  obtain ⟨h1,h2,p,hE,hsl,hm⟩:=hr0
  obtain ⟨es,ex⟩:=hslots p hsl
  have hmx:maxLen=9223372036854775807:=rfl
  have happ:=Go.Lib.run_append_nil_zeros (P:=P) w t tn o.type e i z kx kn (elem?_inv he) htn hi hz n hn0 hk0 (by omega) (by omega)
  have hexec:(execOp a.eval o).run P w=.ok (.value (.slice (some ⟨w.heap.size,0,none⟩) n (grownCap w n 0 e))) (w.drew.alloc (.cells (Builtin.zeroCells z.cells n++Builtin.zeroCells z.cells (grownCap w n 0 e - n)) e)):=by
    simp only[execOp,ho,resolve,invoke,builtin,Sem.run_bind,Sem.run_pure,Result.andThen_ok,List.map_toArray,List.map_cons,List.map_nil,es,ex,happ]
  unfold Oper.wp
  rw[hexec]
  simp only[Oper.upon]
  refine hnx _ _ _ hK ?_
  have hr':Rel w0 p0 σ a w.drew:=Rel.drew hr
  have hcapn:=grownCap_ge w n 0 e
  have hcapm:=grownCap_le_maxLen w n 0 e hmax
  have:=xV hf hr' hfr o.dst (fun y hy=>by rw[hdst] at hy; cases hy; exact hd) (Builtin.zeroCells z.cells n++Builtin.zeroCells z.cells (grownCap w n 0 e - n)) e (.buf i.size []) (.own d i.size 0 n) (.slice (some ⟨w.heap.size,0,none⟩) n (grownCap w n 0 e)) ?_ ?_
  · rw[hdst] at this ⊢; exact this
  · intro p hs hm hkp
    exact .inr ⟨w.heap.size,_,e,by simp [Hp.upd],heap_alloc_new w.drew _,by simp,by simp,by simp⟩
  · intro p hm
    have:=RelV.own (w:=w.drew.alloc (.cells (Builtin.zeroCells z.cells n++Builtin.zeroCells z.cells (grownCap w n 0 e - n)) e)) (p:=p.upd d (some (some w.heap.size))) d i.size 0 n w.heap.size (grownCap w n 0 e) _ e (by simp [Hp.upd]) hcapn hcapm (heap_alloc_new w.drew _)
      (by
        have e1:n*i.size+(grownCap w n 0 e - n)*i.size=grownCap w n 0 e*i.size:=by rw[← Nat.add_mul]; congr 1; omega
        simp only[Array.size_append,size_zeroCells,hzc,e1]; omega)
    simpa using this
section
variable {ops:Array Oper} {rest:List Oper} {n d ty:Nat} {ps:String} {af:Array Edge} {gd:Option (Nat×Bool)} {sl:List (Nat×AV)} {m:Mem} {Q:Exit→St→Prop}
theorem xL (hf:Fit w0 p0) {x:Operand} {t e g k by_ off c:Nat} {xs:List (List AV)} {zs:List Value} (ht:appT? P t=some (e,k,by_)) (hz:zeros? P e=some zs) (hz1:∀ u∈zs,u.oneCell'=true) (hx:ev sl x=some (.own g k off c)) (hl:lk m g=some (.buf k xs))
    (hk:fL P w0 p0 ops rest ⟨n,sl,mU g (.buf k (xs.take off)) m⟩ Q):fL P w0 p0 ops (⟨none,.call { callee:=.builtin .clear,args:=#[x],argTypes:=#[t] },ty,ps,af,none⟩::rest) ⟨n,sl,m⟩ Q :=
  gD rfl (aV0 hf rfl rfl ht hz hz1 (cR hx) (by rw[← lL]; exact hl) hk)
theorem xM (hf:Fit w0 p0) {s x:Operand} {t tn e k by_ c:Nat} {kn kx:IntKind} (hd:lt d n=true) (hE:lt d E0=true) (hl:lk m d=none) (ht:appT? P t=some (e,k,by_)) (htn:P.underlying tn=some (.int kn))
    (hs:ev sl s=some (.s (.slice none 0 0))) (hx:ev sl x=some (.s (.int kx (c:Nat)))) (hn0:0<c) (hby:c*by_≤140737488355328) (hmax:c≤maxLen)
    (hk:fL P w0 p0 ops rest ⟨n,(d,.own d k 0 c)::sl,(d,.buf k [])::m⟩ Q):fL P w0 p0 ops (⟨some d,.call { callee:=.builtin .append,args:=#[s,x],argTypes:=#[t,tn] },ty,ps,af,none⟩::rest) ⟨n,sl,m⟩ Q :=
  gD rfl (aOt hf rfl rfl (pU hd) (rQ hE hl) ht htn (cR hs) (cR hx) hn0 hby hmax hk)
theorem aUu {t e:Nat} {x:Operand} (hx:ev sl x=some (.s (.slice none 0 0))) (ht:elem? P t=some e):cH P ⟨some d,.call { callee:=.builtin .len,args:=#[x],argTypes:=#[t] },ty,ps,af,gd⟩ ⟨n,sl,m⟩ (.s (.int .i64 0)):=by
  intro act w p hs _
  exact⟨_,by simp [execOp,resolve,invoke,builtin,Builtin.len_,oL hs (cR hx),run_underlying (elem?_inv ht),goInt],.s _⟩
theorem nA {t e:Nat} {x:Operand} (hx:ev sl x=some (.s (.slice none 0 0))) (ht:elem? P t=some e):cH P ⟨some d,.call { callee:=.builtin .cap,args:=#[x],argTypes:=#[t] },ty,ps,af,gd⟩ ⟨n,sl,m⟩ (.s (.int .i64 0)):=by
  intro act w p hs _
  exact⟨_,by simp [execOp,resolve,invoke,builtin,Builtin.cap_,oL hs (cR hx),run_underlying (elem?_inv ht),goInt],.s _⟩
theorem sJ {t e k:Nat} {x y:Operand} {kd:IntKind} (hx:ev sl x=some (.s (.slice none 0 0))) (ht:elem? P t=some e) (hc:cells? P e=some k) (hy:ev sl y=some (.s (.int kd 0))):cH P ⟨some d,.slice t x none (some y) none,ty,ps,af,gd⟩ ⟨n,sl,m⟩ (.s (.slice none 0 0)):=by
  intro act w p hs _
  have hb:=uH (P:=P) (lo:=none) (hi:=some y) (len:=0) (cap:=0) (l:=0) (h:=0) hs rfl (by simp [bnd,cR hy]) (Nat.le_refl _) (Nat.le_refl _)
  simp only[Option.map_none,Option.map_some] at hb
  refine⟨_,?_,.s _⟩
  simp [execOp,oL hs (cR hx),Instr.sliceAt,Instr.slice,run_underlying (elem?_inv ht),hb,eI hc]
theorem aJ7 (hf:Fit w0 p0) (k:Nat) {x:Operand} (hd:lt d n=true) (hE:lt d E0=true) (hl:lk m d=none) (hx:ev sl x=some (.s (.slice none 0 0))) (hk:fL P w0 p0 ops rest ⟨n,(d,.own d k 0 0)::sl,(d,.buf k [])::m⟩ Q) :
    fL P w0 p0 ops (⟨some d,.assign x,ty,ps,af,none⟩::rest) ⟨n,sl,m⟩ Q:=by
  refine gD rfl ?_
  intro a w next Q' hr hn
  have h0:=aT9 (P:=P) (o:=⟨some d,.assign (.const (.slice none 0 0)),ty,ps,af,none⟩) (σ:=⟨n,sl,m⟩) (K:=fun σ'=>fL P w0 p0 ops rest σ' Q) hf k rfl rfl (pU hd) (rQ hE hl) hk a w next Q' hr hn
  obtain ⟨h1,h2,p,hE',hs,hm⟩:=hr
  have e:=oL hs (cR (n:=n) (m:=m) hx)
  have hr1:(execOp a.eval ⟨some d,.assign x,ty,ps,af,none⟩).run P w=.ok (.value (.slice none 0 0)) w:=by simp [execOp,e]
  have hr2:(execOp a.eval ⟨some d,.assign (.const (.slice none 0 0)),ty,ps,af,none⟩).run P w=.ok (.value (.slice none 0 0)) w:=by simp [execOp,Act.eval]
  unfold Oper.wp at h0 ⊢
  rw[hr2] at h0
  rw[hr1]
  exact h0
end
end Go.Abs
set_option linter.unusedVariables false
set_option linter.unusedSimpArgs false
namespace Go.Abs
open Go Go.RowKit
variable {P:Program} {w0:World} {p0:Hp} {ops:Array Oper} {md:Region.Mode} {n:Nat} {mem:Mem}
def aGt (md:Region.Mode) (o:Oper):List Nat:=(o.after.toList.filter (Region.binds md)).map (·.on)
def aKv (m:Array Bool) (l:List Nat):Array Bool:=l.foldl (fun m d=>m.setIfInBounds d true) m
def yB (md:Region.Mode) (ops:Array Oper):Nat→Array Bool→Array Bool
  | 0,m=>m
  | i+1,m=>yB md ops i (if m.getD i false then aKv m (match ops[i]? with | some o=>aGt md o | none=>[]) else m)
def tD (md:Region.Mode) (ops:Array Oper) (stop:Nat):Bool :=
  (List.range ops.size).all fun j=>decide (j<stop)||(match ops[j]? with
    | some o=>(List.range stop).all fun i=>(yB md ops ops.size (aKv (Array.replicate ops.size false) (aGt md o))).getD i false
    | none=>true)
def Closed (md:Region.Mode) (ops:Array Oper) (listed:Array Bool):Prop:=∀ i,listed.getD i false=true→∀ o,ops[i]?=some o→∀ d∈aGt md o,listed.getD d false=true
def Sub (m listed:Array Bool):Prop:=∀ i,m.getD i false=true→listed.getD i false=true
theorem aN2 {m:Array Bool} {d i:Nat} (h:(m.setIfInBounds d true).getD i false=true):i=d∨m.getD i false=true:=by
  by_cases hd:d=i
  · exact .inl hd.symm
  · rw[getD_set_ne false hd] at h; exact .inr h
theorem wK {listed:Array Bool}:∀ (l:List Nat) (m:Array Bool),Sub m listed→(∀ d∈l,listed.getD d false=true)→Sub (aKv m l) listed
  | [],m,h,_=>h
  | d::l,m,h,hl=>by
    refine wK l _ (fun i hi=>?_) (fun d hd=>hl d (by simp [hd]))
    rcases aN2 hi with rfl | hi
    · exact hl _ (by simp)
    · exact h i hi
theorem yU {listed:Array Bool} (hc:Closed md ops listed):∀ (i:Nat) (m:Array Bool),Sub m listed→Sub (yB md ops i m) listed
  | 0,m,h=>h
  | i+1,m,h=>by
    simp only[yB]
    refine yU hc i _ ?_
    split
    · rename_i hm
      refine wK _ m h ?_
      cases ho:ops[i]? with
      | none=>simp
      | some o=>exact fun d hd=>hc i (h i hm) o ho d hd
    · exact h
theorem aGu {listed:Array Bool} {j:Nat} {o:Oper} (ho:ops[j]?=some o) (hj:j∈Region.ready md ops listed):∀ d∈aGt md o,listed.getD d false=true:=by
  obtain ⟨_,o',ho',hall⟩:=mem_ready.1 hj
  rw[ho] at ho'; cases ho'
  intro d hd
  simp only[aGt,List.mem_map,List.mem_filter] at hd
  obtain ⟨e,⟨he,hb⟩,rfl⟩:=hd
  exact hall e (by simpa using he) hb
theorem aQw {listed:Array Bool} {stop j:Nat} (ht:tD md ops stop=true) (hc:Closed md ops listed) (hj:j∈Region.ready md ops listed) (hs:stop≤j):∀ i,i<stop→listed.getD i false=true:=by
  obtain ⟨_,o,ho,_⟩:=mem_ready.1 hj
  have hlt:=(Array.getElem?_eq_some_iff.1 ho).1
  simp only[tD,List.all_eq_true,List.mem_range] at ht
  have h1:=ht j hlt
  have hns:¬ j<stop:=by omega
  simp only[hns,decide_false,Bool.false_or,ho,List.all_eq_true,List.mem_range] at h1
  intro i hi
  refine yU hc ops.size _ (wK _ _ (fun q hq=>?_) (aGu ho hj)) i (h1 i hi)
  exfalso
  rw[Array.getD_eq_getD_getElem?] at hq
  rw[Array.getElem?_replicate] at hq
  split at hq <;> simp at hq
theorem Closed.set {listed:Array Bool} {j:Nat} (hc:Closed md ops listed) (hj:j∈Region.ready md ops listed):Closed md ops (listed.setIfInBounds j true):=by
  intro i hi o ho d hd
  rcases aN2 hi with rfl | hi
  · exact getD_set_true (aGu ho hj d hd)
  · exact getD_set_true (hc i hi o ho d hd)
theorem aOm:Closed md ops (Array.replicate ops.size false):=by
  intro i hi
  exfalso
  rw[Array.getD_eq_getD_getElem?,Array.getElem?_replicate] at hi
  split at hi <;> simp at hi
def aE0 (P:Program) (md:Region.Mode) (ops:Array Oper) (n:Nat) (mem:Mem) (stop:Nat) (E:Array Bool→FS→Prop):Nat→Array Bool→FS→Prop
  | 0,listed,s=>(∀ i,i<stop→listed.getD i true=true)∧E listed s
  | fuel+1,listed,s=>(Region.ready md ops listed≠[])∧∀ i∈Region.ready md ops listed,gOp P ops n mem i (aE0 P md ops n mem stop E fuel (listed.setIfInBounds i true)) s
theorem aEw (hf:Fit w0 p0) {stop r:Nat} {E:Array Bool→FS→Prop} {Q':Exit→Act→World→Prop} (hE:∀ listed s a w,aL2 w0 p0 n mem s a w→E listed s→wpAny P md ops Q' r listed a w):∀ (fuel:Nat) (listed:Array Bool) (s:FS) (a:Act) (w:World),aL2 w0 p0 n mem s a w →
    aE0 P md ops n mem stop E fuel listed s→wpAny P md ops Q' (fuel+r) listed a w
  | 0,listed,s,a,w,hr,h=>by rw[Nat.zero_add]; exact hE _ _ _ _ hr h.2
  | fuel+1,listed,s,a,w,hr,h=>by
    rw[show fuel+1+r=(fuel+r)+1 by omega]
    exact⟨fun h0=>absurd h0 h.1,fun i hi=>aCk hf hr (fun s' a' w' hr'=>aEw hf hE fuel _ s' a' w' hr') (h.2 i hi)⟩
theorem aKa {stop:Nat} {E:Array Bool→FS→Prop} (ht:tD md ops stop=true) {i:Nat} {oi:Oper} {av:AV} (his:i<stop) (hi:ops[i]?=some oi) :
    ∀ (fuel:Nat) (listed:Array Bool) (s:FS),Closed md ops listed →
      (∀ j oj,ops[j]?=some oj→j≠i→listed.getD j true=false→(∀ e∈oj.after,Region.binds md e=true→e.on≠i)→oi.apart ops oj=true) →
      i∈Region.ready md ops listed→YieldsS P ops n mem oi av s →
      aE0 P md ops n mem stop E fuel (listed.setIfInBounds i true) (vO s oi.dst av)→aE0 P md ops n mem stop E (fuel+1) listed s:=by
  have early:∀ (listed:Array Bool),Closed md ops listed→i∈Region.ready md ops listed→∀ j∈Region.ready md ops listed,j<stop:=by
    intro listed hc hr j hj
    rcases Nat.lt_or_ge j stop with h | h
    · exact h
    · exfalso
      have h1:=aQw ht hc hj h i his
      have h0:=(mem_ready.1 hr).1
      rcases Nat.lt_or_ge i listed.size with h' | h'
      · simp [h'] at h0 h1; rw[h0] at h1; cases h1
      · simp [Array.getElem?_eq_none h'] at h1
  intro fuel
  induction fuel with
  | zero =>
    intro listed s hc _ hr hy H
    refine⟨fun h=>(by rw[h] at hr; cases hr),fun j hj=>?_⟩
    by_cases hji:j=i
    · subst hji; exact hy.gOp hi H
    · exfalso
      have h1:=H.1 j (early listed hc hr j hj)
      rw[getD_set_ne true (Ne.symm hji)] at h1
      have h0:=(mem_ready.1 hj).1
      rw[h0] at h1; cases h1
  | succ fuel ih =>
    intro listed s hc hfree hr hy H
    refine⟨fun h=>(by rw[h] at hr; cases hr),fun j hj=>?_⟩
    by_cases hji:j=i
    · subst hji; exact hy.gOp hi H
    · have h1:=H.2 j (ready_mono hj hji)
      obtain ⟨hjun,oj,hoj,hall⟩:=mem_ready.1 hj
      have hnot:∀ e∈oj.after,Region.binds md e=true→e.on≠i:=fun e he hb heq=>by
        have h1:=hall e he hb
        have h0:=(mem_ready.1 hr).1
        rw[heq] at h1
        rcases Nat.lt_or_ge i listed.size with h' | h'
        · simp [h'] at h0 h1; rw[h0] at h1; cases h1
        · simp [Array.getElem?_eq_none h'] at h1
      have h2:=aT2 hoj (hfree j oj hoj hji hjun hnot) hy h1
      have hfree':∀ k ok,ops[k]?=some ok→k≠i→(listed.setIfInBounds j true).getD k true=false →
          (∀ e∈ok.after,Region.binds md e=true→e.on≠i)→oi.apart ops ok=true:=fun k ok hk hki hun hno=>by
        refine hfree k ok hk hki ?_ hno
        by_cases hjk:j=k
        · subst hjk; exact hjun
        · rw[getD_set_ne true hjk] at hun; exact hun
      refine aN3 (fun s' h3=>ih (listed.setIfInBounds j true) s' (hc.set hj) hfree' (ready_mono hr (Ne.symm hji)) h3.1 ?_) h2
      rw[Array.setIfInBounds_comm _ _ hji]
      exact h3.2
def aKw (md:Region.Mode) (ops:Array Oper):Nat→Nat→Array Bool→Bool
  | 0,_,_=>true
  | fuel+1,k,listed=>(Region.ready md ops listed).contains k&&Region.free md ops listed k&&aKw md ops fuel (k+1) (listed.setIfInBounds k true)
def aEo:Nat→Nat→Array Bool→Array Bool
  | 0,_,listed=>listed
  | fuel+1,k,listed=>aEo fuel (k+1) (listed.setIfInBounds k true)
theorem aEz {stop:Nat} {E:Array Bool→FS→Prop} (ht:tD md ops stop=true):∀ (l:List Oper) (k:Nat) (listed:Array Bool) (s:FS),(∀ j o,l[j]?=some o→ops[k+j]?=some o)→k+l.length=stop→Closed md ops listed→(∀ i,i<k→listed.getD i true=true) →
    aKw md ops l.length k listed=true→rN P ops n mem (fun s=>E (aEo l.length k listed) s) l s→aE0 P md ops n mem stop E l.length listed s
  | [],k,listed,s,_,hk,_,hlt,_,h=>⟨fun i hi=>hlt i (by simpa [← hk] using hi),h⟩
  | o::l,k,listed,s,hl,hk,hc,hlt,hB,h=>by
    have h0:ops[k]?=some o:=by simpa using hl 0 o rfl
    simp only[List.length_cons,aKw,Bool.and_eq_true] at hB
    obtain ⟨⟨hr,hf⟩,hB'⟩:=hB
    obtain ⟨av,hy,hK⟩:=h
    have hr':k∈Region.ready md ops listed:=by simpa using hr
    refine aKa ht (by simp at hk; omega) h0 l.length listed s hc (Region.free_spec h0 hf) hr' hy ?_
    refine aEz ht l (k+1) _ _ (fun j o' hj=>by have:=hl (j+1) o' (by simpa using hj); simpa [Nat.add_assoc,Nat.add_comm 1 j] using this) (by simp at hk; omega) (hc.set hr') (fun i hi=>?_) hB' hK
    by_cases hik:k=i
    · subst hik
      have hsz:k<listed.size∨listed.size≤k:=Nat.lt_or_ge _ _
      rcases hsz with h | h
      · simp [h]
      · simp [h]
    · rw[getD_set_ne true hik]; exact hlt i (by omega)
def aOa (ops:Array Oper) (stop:Nat):Bool:=tD .any ops stop&&aKw .any ops stop 0 (Array.replicate ops.size false)
variable {sl:List (Nat×AV)} {m:Mem} {Q:Exit→St→Prop}
theorem gL (hf:Fit w0 p0) {id:Nat} {l:List Oper} {K:FS→Prop} {L:Array Bool} (stop r:Nat) (hm:P.follows .mixedOrders=true) (hB:aOa l.toArray stop=true) (hsz:l.length=stop+r) (hL:aEo stop 0 (Array.replicate l.toArray.size false)=L)
    (hK:K=fun s=>∃ σ':St,σ'.n=n∧σ'.mem=m∧kP (fun t=>some (s t)) σ'.slots∧mD σ'.slots=true∧qS P w0 p0 l.toArray Q r L σ') (h:rN P l.toArray n m K (l.take stop) (fsl sl)):AW P w0 p0 (.region id l.toArray true) ⟨n,sl,m⟩ Q:=by
  subst hK
  intro a w ⟨h1,h2,p,hE,hs,hmem⟩
  refine wp_region_any hm ?_
  simp only[aOa,Bool.and_eq_true] at hB
  have hr:aL2 w0 p0 n m (fsl sl) a { w with drawn:=w.drawn+1 }:=by
    have hg:Grow w { w with drawn:=w.drawn+1 }:=⟨rfl,⟨rfl,Nat.le_succ _⟩,rfl,Nat.le_refl _,fun _ _=>rfl⟩
    have hk:=hg.keeps hmem
    refine⟨h1,h2,p,hE.step hk hg.os hg.tape hg.output hg.size rfl (fun b hb _=>hg.heap b hb) (fun g h1 h2=>absurd h1 h2),fun t=>?_,⟨hmem.dom,fun g m hl=>(hmem.holds g m hl).keep hk fun _ _=>rfl,hmem.inj,hmem.avoid⟩⟩
    unfold fsl
    rw[lL]
    cases hl:bL sl t with
    | none=>exact .inl rfl
    | some b=>obtain ⟨v,hv,hrv⟩:=hs t b hl; exact .inr ⟨v,hv,hrv.keep hk⟩
  have hlen:(l.take stop).length=stop:=by simp; omega
  have key:=aEz (P:=P) (n:=n) (mem:=m) (E:=fun listed (s:FS)=>listed=L∧∃ σ':St,σ'.n=n∧σ'.mem=m∧kP (fun t=>some (s t)) σ'.slots∧mD σ'.slots=true∧qS P w0 p0 l.toArray Q r L σ') hB.1 (l.take stop) 0 (Array.replicate l.toArray.size false) (fsl sl)
    (fun j o hj=>by
      rw[List.getElem?_take] at hj
      split at hj
      · simpa using hj
      · cases hj) (by omega) aOm (by simp) (by rw[hlen]; exact hB.2) (by
      rw[hlen]
      have:(fun(s:FS)=>aEo stop 0 (Array.replicate l.toArray.size false)=L∧∃ σ':St,σ'.n=n∧σ'.mem=m∧kP (fun t=>some (s t)) σ'.slots∧mD σ'.slots=true∧qS P w0 p0 l.toArray Q r L σ')=(fun(s:FS)=>∃ σ':St,σ'.n=n∧σ'.mem=m∧kP (fun t=>some (s t)) σ'.slots∧mD σ'.slots=true∧qS P w0 p0 l.toArray Q r L σ'):=by
        funext s; exact propext ⟨fun h=>h.2,fun h=>⟨hL,h⟩⟩
      exact this ▸ h)
  rw[hlen] at key
  have:=aEw hf (r:=r) (Q':=fun e a' w'=>∃ σ',Q e σ'∧Rel w0 p0 σ' a' w') (fun listed s a w hr hQ=>?_) stop _ _ a _ hr key
  · have e:l.toArray.size=stop+r:=by simpa using hsz
    rw[e] at this ⊢
    exact this
  · obtain ⟨rfl,σ',e1,e2,hc,hnb,hQ'⟩:=hQ
    obtain ⟨g1,g2,q,hE',hs',hm'⟩:=hr
    refine hQ' a w ⟨g1,by rw[e1]; exact g2,q,hE',fun t b hb=>?_,by rw[e2]; exact hm'⟩
    have hst:s t=b:=by simpa using nG hc t b hb
    rcases hs' t with h | ⟨v,hv,hrv⟩
    · rw[hst] at h
      subst h
      exact absurd hb (rK hnb t)
    · exact⟨v,hv,hst ▸ hrv⟩
theorem aXg {K:FS→Prop} {sl':List (Nat×AV)} {r:Nat} {L:Array Bool} (hK:K=fun s=>∃ σ':St,σ'.n=n∧σ'.mem=m∧kP (fun t=>some (s t)) σ'.slots∧mD σ'.slots=true∧qS P w0 p0 ops Q r L σ') (hc:pJ sl sl') (hnb:mD sl'=true) (h:qS P w0 p0 ops Q r L ⟨n,sl',m⟩):rN P ops n m K [] (fsl sl):=by
  subst hK
  refine⟨⟨n,sl',m⟩,rfl,rfl,?_,hnb,h⟩
  have:∀ l,pJ sl l→kP (fun t=>some (fsl sl t)) l:=by
    intro l
    induction l with
    | nil=>intro _; trivial
    | cons x r ih =>
      intro h
      obtain ⟨t,a⟩:=x
      exact⟨by simp [fsl,h.1],ih h.2⟩
  exact this sl' hc
def aTv (K:St→Prop):Exit→St→Prop:=fun e σ=>e=.normal∧K σ
theorem aOs {o:Oper} {σ:St} {K:St→Prop} (hg:o.guard=none) (h:fL P w0 p0 ops [o] σ (aTv K)):AOp P w0 p0 o σ K:=by
  intro a w next Q hr hn
  have h1:=h a w hr
  simp only[wpList] at h1
  rw[if_pos (by simp [Region.wanted,hg])] at h1
  have hno:¬ LetsOut (fun e a' w'=>∃ σ',aTv K e σ'∧Rel w0 p0 σ' a' w'):=fun⟨_,_,_,h,_⟩=>by cases h.1
  rcases h1 with h1 | h1
  · unfold Oper.wp at h1 ⊢
    generalize (execOp a.eval o).run P w=r at h1 ⊢
    cases r with
    | ok nx w' =>
      cases nx <;> simp only[Oper.upon,wpList] at h1 ⊢
      case value v=>obtain ⟨σ',h2,h3⟩:=h1; exact hn _ _ _ h2.2 h3
      case skip=>obtain ⟨σ',h2,h3⟩:=h1; exact hn _ _ _ h2.2 h3
      case defer=>obtain ⟨σ',h2,h3⟩:=h1; exact hn _ _ _ h2.2 h3
      case enter =>
        refine Calls.mono h1 (fun e w'' he=>?_)
        cases e with
        | returned v=>obtain ⟨σ',h2,h3⟩:=he; exact hn _ _ _ h2.2 h3
        | panicked c=>obtain ⟨σ',h2,h3⟩:=he; cases h2.1
        | outgrown=>exact absurd he hno
      case row=>exact Rows.mono h1 (fun v w'' ⟨σ',h2,h3⟩=>hn _ _ _ h2.2 h3)
    | halt x w' =>
      cases x <;> simp only[Oper.upon] at h1 ⊢
      obtain ⟨σ',h2,h3⟩:=h1; cases h2.1
  · exact absurd h1.2 hno
theorem aF {σ:St} {K:St→Prop} (h:K σ):fL P w0 p0 ops [] σ (aTv K):=bS ⟨rfl,h⟩
end Go.Abs
set_option linter.unusedVariables false
set_option linter.unusedSimpArgs false
namespace Go.Abs
open Go Go.RowKit
variable {P:Program} {w0:World} {p0:Hp}
variable {ops:Array Oper} {rest:List Oper} {n d ty:Nat} {ps:String} {af:Array Edge} {sl:List (Nat×AV)} {m:Mem} {Q:Exit→St→Prop}
def opne (d:Nat):Operand→Bool
  | .tmp t=>match Nat.beq d t with | true=>false | false=>true
  | _=>true
theorem aXt {a:Act} {y:Operand} {d:Nat} {v:Value} (h:opne d y=true):(a.put (some d) v).eval y=a.eval y:=by
  cases y with
  | tmp t =>
    simp only[opne] at h
    split at h
    · cases h
    · rename_i hb
      have hne:d≠t:=fun e=>by subst e; simp at hb
      simp only[Act.eval,Act.put,Array.getD_eq_getD_getElem?]
      rw[Array.getElem?_setIfInBounds_ne hne]
  | const v=>rfl
  | func f=>rfl
  | global g=>rfl
theorem bY (hf:Fit w0 p0) {t t2 ty2:Nat} {ps2:String} {af2:Array Edge} {y:Operand} {zs:List Value} {c:Nat} {av:AV} {cs:List AV} (hd:lt d n=true) (hz:zeros? P t=some zs) (hzl:zs.length=c) (hn:cells? P t2=some c) (hy:ev sl y=some av) (hne:opne d y=true) (hcs:av.cells=cs) (hlen:cs.length=c) (h1:∀ c∈cs,c.leaf=true)
    (hk:fL P w0 p0 ops rest ⟨n,(d,.adr cs)::sl,m⟩ Q):fL P w0 p0 ops (⟨some d,.alloc t,ty,ps,af,none⟩::⟨none,.store t2 (.tmp d) y,ty2,ps2,af2,none⟩::rest) ⟨n,sl,m⟩ Q:=by
  subst hcs
  intro a w ⟨h2,h3,p,hE,hs,hm⟩
  obtain ⟨z,hz1,hz2⟩:=zeros?_inv hz w
  have hrun1:(execOp a.eval ⟨some d,.alloc t,ty,ps,af,none⟩).run P w=.ok (.value (.pointer (some ⟨w.heap.size,0,none⟩))) (w.alloc (.cells z.cells t)):=by
    simp [execOp,Instr.alloc,hz1,newVar,newRow]
  refine wpList_plain rfl fun K1 hK1=>?_
  unfold Oper.wp
  rw[hrun1]
  simp only[Oper.upon]
  refine hK1 _ _ ?_
  refine wpList_plain rfl fun K2 hK2=>?_
  have hdn:d<a.tmps.size:=by rw[h3]; exact pU hd
  have ed:(a.put (some d) (.pointer (some ⟨w.heap.size,0,none⟩))).eval (.tmp d)=.pointer (some ⟨w.heap.size,0,none⟩):=by
    simp [Act.eval,Act.put,hdn]
  have ey:(a.put (some d) (.pointer (some ⟨w.heap.size,0,none⟩))).eval y=a.eval y:=aXt hne
  have hzsz:z.cells.size=c:=by rw[← hzl,← hz2]; simp
  have hrv:RelV w p av (a.eval y):=(cR (n:=n) (m:=m) hy) ▸ dW hs y
  obtain ⟨hl,hc⟩:=hrv.cells (fun c hc=>AV.one_of_leaf (h1 c hc))
  have hone:∀ u∈(a.eval y).cells.toList,u.oneCell'=true:=by
    intro u hu
    obtain ⟨i,hi⟩:=List.getElem?_of_mem hu
    have hlt:=(List.getElem?_eq_some_iff.1 hi).1
    have hlt':i<av.cells.length:=by simp at hlt; omega
    obtain ⟨u',hu',hr'⟩:=hc i _ (List.getElem?_eq_getElem hlt')
    simp only[Array.getElem?_toList] at hi
    rw[hi] at hu'; cases hu'
    exact hr'.one (AV.one_of_leaf (h1 _ (List.getElem_mem hlt')))
  have hnew:=heap_alloc_new w (.cells z.cells t)
  have hst:=run_storeCells_at P w.heap.size 0 t (a.eval y).cells.toList 0 z.cells (w.alloc (.cells z.cells t)) hnew (by simp; omega) hone
  generalize hcs:(z.cells.toList.take (0+0)++(a.eval y).cells.toList++z.cells.toList.drop (0+0+(a.eval y).cells.toList.length)).toArray=cs at hst
  have hcsv:cs=(a.eval y).cells:=by
    rw[← hcs]
    have:(z.cells.toList.drop (0+0+(a.eval y).cells.toList.length))=[]:=by
      rw[List.drop_eq_nil_iff]; simp; omega
    rw[this]; simp
  have hsz2:(a.eval y).cells.size=c:=by omega
  have hrun2:(execOp (a.put (some d) (.pointer (some ⟨w.heap.size,0,none⟩))).eval ⟨none,.store t2 (.tmp d) y,ty2,ps2,af2,none⟩).run P (w.alloc (.cells z.cells t))=.ok .skip ((w.alloc (.cells z.cells t)).setRow w.heap.size cs):=by
    simp [execOp,ed,ey,Instr.storeAt,Instr.sureAddr,storeVar,eI hn,hsz2,hst]
  unfold Oper.wp
  rw[hrun2]
  simp only[Oper.upon]
  refine hK2 _ _ ?_
  have hw'sz:((w.alloc (.cells z.cells t)).setRow w.heap.size cs).heap.size=w.heap.size+1:=by simp [World.setRow]
  have hbk:((w.alloc (.cells z.cells t)).setRow w.heap.size cs).heap[w.heap.size]?=some (.cells cs t (0,0)):=setRow_heap _ w.heap.size z.cells cs t _ hnew
  have hg:Grow w ((w.alloc (.cells z.cells t)).setRow w.heap.size cs):=⟨rfl,⟨rfl,Nat.le_refl _⟩,rfl,by rw[hw'sz]; omega,fun b hb=>by
    rw[setRow_other _ w.heap.size b cs (by omega)]
    exact Below.heap_alloc w _ b hb⟩
  generalize hw':(w.alloc (.cells z.cells t)).setRow w.heap.size cs=w' at hg hbk hw'sz ⊢
  have hkp:=hg.keeps hm
  have hAb:∀ b,p.A b→b<w.heap.size:=fun b hb=>Nat.lt_of_lt_of_le (hf.others b (hE.A ▸ hb)) hE.size
  have hstab:Stable w' p w.heap.size:=⟨by rw[hw'sz]; omega,fun g hgb=>Nat.lt_irrefl _ (hm.lt hgb),fun hA=>Nat.lt_irrefl _ (hAb _ hA)⟩
  refine hk _ w' ⟨h2,by simpa [Act.put] using h3,p,hE.step hkp hg.os hg.tape hg.output hg.size rfl (fun b hb _=>hg.heap b hb) (fun g h1 h2=>absurd h1 h2),?_,⟨hm.dom,fun g m hl=>(hm.holds g m hl).keep hkp fun b hb=>hg.heap b (hm.lt hb),hm.inj,hm.avoid⟩⟩
  have hadr:RelV w' p (.adr av.cells) (.pointer (some ⟨w.heap.size,0,none⟩)):=by
    refine .adr _ w.heap.size 0 (fun i=>((a.eval y).cells[i]?).getD undef) hstab h1 (fun i c hi=>?_) (fun i c hi=>?_)
    · obtain ⟨u,hu,hr⟩:=hc i c hi
      rw[Nat.zero_add,iP hbk,hcsv,hu]; rfl
    · obtain ⟨u,hu,hr⟩:=hc i c hi
      rw[hu]; exact hr.keep hkp
  exact(hs.keep hkp).put hdn hadr
end Go.Abs
set_option linter.unusedVariables false
set_option linter.unusedSimpArgs false
namespace Go.Abs
open Go Go.RowKit
variable {P:Program} {w0:World} {p0:Hp}
def G0:Nat:=1000000
structure Took (w:World) (x:Option Nat) (w':World):Prop where
  os:w'.os=w.os
  tape:w'.tape=w.tape∧w.drawn≤w'.drawn
  output:w'.output=w.output
  size:w.heap.size≤w'.heap.size
  same:∀ b,b<w.heap.size→x≠some b→w'.heap[b]?=w.heap[b]?
def DenR (P:Program) (f:Nat) (args:List AV) (k:Nat) (xs:List (List AV)) (Q:List (List AV)→Prop):Prop :=
  ∀ (A:Nat→Prop) (w:World) (x:Option Nat) (vals:List Value),(∀ b,A b→b<w.heap.size)→(∀ b,x=some b→¬ A b)→RelL w (fE x A) args vals→AMRel w (fE x A) E0 (.buf k xs) →
    Calls P f vals.toArray w (fun e w'=>∃ v ys x',e=.returned v∧Q ys∧Took w x w'∧(∀ b,x'=some b→x=some b∨w.heap.size≤b)∧AMRel w' (fE x' A) E0 (.buf k ys)∧RelV w' (fE x' A) (.own E0 k 0 ys.length) v)
theorem DenR.mono {f:Nat} {args:List AV} {k:Nat} {xs:List (List AV)} {Q Q':List (List AV)→Prop} (h:DenR P f args k xs Q) (hq:∀ ys,Q ys→Q' ys):DenR P f args k xs Q' :=
  fun A w x vals h1 h2 h3 h4=>(h A w x vals h1 h2 h3 h4).mono fun e w' ⟨v,ys,x',e1,e2,e3⟩=>⟨v,ys,x',e1,hq _ e2,e3⟩
def named (x:Option Nat) (A:Nat→Prop):Hp:={ o:=fun g=>if g=G0 then some x else none,A:=A }
theorem aAr {x:Option Nat} {A:Nat→Prop} {g:Nat} {y:Option Nat} (h:(named x A).o g=some y):g=G0∧x=y:=by
  simp only[named] at h
  split at h
  · rename_i e; cases h; exact⟨e,rfl⟩
  · cases h
theorem aU3 (x:Option Nat) (A:Nat→Prop):(named x A).but G0=A:=by
  funext b
  refine propext ⟨fun h=>?_,fun h=>.inl h⟩
  rcases h with h | ⟨g,hg,h⟩
  · exact h
  · exact absurd (aAr h).1 hg
theorem aRx {f:Nat} {fn:Func} {c:Code} {args args':List AV} {k:Nat} {xs:List (List AV)} {Q:List (List AV)→Prop} (hf:P.funcs[f]?=some fn) (hb:fn.body=some c) (hn:args.length≤fn.ntmps) (hargs:args.map (AV.fromE G0)=args')
    (h:∀ w0 x A,Fit w0 (fE x A)→AW P w0 (fE x A) c ⟨fn.ntmps,iD 0 args',[(G0,.buf k xs)]⟩ (retO P fn k Q)):DenR P f args k xs Q:=by
  subst hargs
  intro A w x vals hA hx hr hbuf
  refine calls_of_wp hf hb ?_
  have hfit:Fit w (fE x A):=⟨fun g hg=>by simp [fE]; omega,hA⟩
  have hxn:(named x A).o G0=some x:=by simp [named]
  have hbut:fE x ((named x A).but G0)=fE x A:=by rw[aU3]
  have hrel:Rel w (fE x A) ⟨fn.ntmps,iD 0 (args.map (AV.fromE G0)),[(G0,.buf k xs)]⟩ { tmps:=vals.toArray++Array.replicate (fn.ntmps - vals.toArray.size) undef,defers:=[] } w:=by
    refine⟨rfl,by have:=hr.1; simp; omega,named x A,⟨rfl,⟨rfl,Nat.le_refl _⟩,rfl,Nat.le_refl _,rfl,fun b hb=>⟨⟨hb.1,fun g hg=>?_,hb.2.2⟩,rfl⟩,fun _ _ _=>rfl,fun g y hg=>?_⟩,fun t a ht=>?_,⟨fun g hl=>?_,fun g m hl=>?_,fun g g' b h1 h2=>?_,fun g b h=>?_⟩⟩
    · have:=(aAr hg).2
      exact hb.2.1 E0 (by rw[eN,this])
    · have:=(iA hg).1
      subst this
      exact .inl (by simp [named,E0,G0])
    · obtain ⟨_,ht⟩:=jW _ 0 t a ht
      simp only[Nat.sub_zero] at ht
      rw[List.getElem?_map] at ht
      cases hi:args[t]? with
      | none=>simp [hi] at ht
      | some c' =>
        simp [hi] at ht; subst ht
        have hlt:t<vals.length:=by rw[← hr.1]; exact(List.getElem?_eq_some_iff.1 hi).1
        refine⟨vals[t]'hlt,by rw[Array.getElem?_append_left (by simpa using hlt)]; simp [hlt],?_⟩
        have:=hr.2 t c' (vals[t]'hlt) hi (by simp [hlt])
        rw[← hbut] at this
        exact this.fromE hxn
    · simp only[bL] at hl
      split at hl
      · cases hl
      · rename_i hne; simp only[named]; rw[if_neg (fun e=>hne e.symm)]
    · simp only[bL] at hl
      split at hl
      · rename_i e; subst e; cases hl
        rw[← hbut] at hbuf
        exact hbuf.fromE hxn
      · cases hl
    · exact(aAr h1).1.trans (aAr h2).1.symm
    · exact hx b (aAr h).2
  refine wp_mono (h w x A hfit _ w hrel) ?_
  rintro e a' w' ⟨σ',hq,h1,h2,p,hE,hs,hm⟩
  have fin:(∃ g ys,g<E0∧bL σ'.mem g=some (.buf k ys)∧zU P fn σ'=some (.own g k 0 ys.length)∧Q ys)→a'.defers=[]∧∃ v,(results fn a'.tmps).run P w'=.ok v w' ∧
      ∃ v' ys x',Ending.returned v=.returned v'∧Q ys∧Took w x w'∧(∀ b,x'=some b→x=some b∨w.heap.size≤b)∧AMRel w' (fE x' A) E0 (.buf k ys)∧RelV w' (fE x' A) (.own E0 k 0 ys.length) v':=by
    rintro ⟨g,ys,hgE,hl,hres,hQ⟩
    obtain ⟨v,hv,hrv⟩:=wX hs hm _ hres
    obtain ⟨x',hx'⟩:∃ x',p.o g=some x':=by
      rcases hm.holds g _ hl with h | ⟨b,cur,T,h,_⟩
      · exact⟨_,h.2⟩
      · exact⟨_,h⟩
    have hpA:p.A=A:=hE.A
    have hmv:∀ b,Stable w' p b→Stable w' (fE x' A) b:=fun b hb=>⟨hb.1,fun g' hg'=>by have:=(iA hg').2; subst this; exact hb.2.1 g hx',hpA ▸ hb.2.2⟩
    refine⟨h1,v,hv,v,ys,x',rfl,hQ,⟨hE.os,hE.tape,hE.output,hE.size,fun b hb hxb=>?_⟩,?_,?_,?_⟩
    · by_cases hAb:A b
      · exact hE.others b hb hAb
      · exact(hE.stab b ⟨hb,fun g' hg'=>hxb (iA hg').2,hAb⟩).2
    · rintro b rfl
      by_cases hb:b<w.heap.size
      · left
        by_cases hxb:x=some b
        · exact hxb
        · exfalso
          by_cases hAb:A b
          · exact hm.avoid g b hx' (hpA ▸ hAb)
          · exact(hE.stab b ⟨hb,fun g' hg'=>hxb (iA hg').2,hAb⟩).1.2.1 g hx'
      · right; omega
    · rcases hm.holds g _ hl with ⟨e1,e2⟩ | ⟨b,cur,T,h1,h2,h3,h4,h5⟩
      · rw[hx'] at e2; cases e2; exact .inl ⟨e1,eN _ _⟩
      · rw[hx'] at h1; cases h1
        refine .inr ⟨b,cur,T,eN _ _,h2,h3,h4,fun j y i c hy hc=>?_⟩
        obtain ⟨u,hu,hr⟩:=h5 j y i c hy hc
        exact⟨u,hu,hr.move (ok:=fun _=>false) (fun b hb=>⟨hmv b hb,rfl⟩) (fun _ _ h _=>by cases h) (AV.clean_of_leaf ((h4 y (List.mem_of_getElem? hy)).2 c (List.mem_of_getElem? hc)))⟩
    · generalize ys.length=n at hrv ⊢
      cases hrv with
      | ownn _ _ hg=>rw[hx'] at hg; cases hg; exact .ownn _ _ (eN _ _)
      | own _ _ _ _ _ _ _ _ hg e1 e2 e3 e4=>rw[hx'] at hg; cases hg; exact .own _ _ _ _ _ _ _ _ (eN _ _) e1 e2 e3 e4
      | own0 _ _ _ _ _ hg=>rw[hx'] at hg; cases hg; exact .own0 _ _ _ _ _ (eN _ _)
  cases e with
  | normal=>exact fin hq
  | ret=>exact fin hq
  | _=>exact hq.elim
theorem aV2 {o:Oper} {σ:St} {K:St→Prop} (hf:Fit w0 p0) {fo:Operand} {xs:List Operand} {ts:Array TypeId} {f g k d:Nat} {cap args:List AV} {ys:List (List AV)} {Q:List (List AV)→Prop}
    (ho:o.op=.call { callee:=.value fo,args:=xs.toArray,argTypes:=ts }) (hdst:o.dst=some d) (hd:d<σ.n) (hgE:g<E0)
    (hent:∀ args w,(callFunc f args).run P w=.ok (.enter f args) w) (hfo:σ.ev fo=.fn f cap) (hg:bL σ.mem g=some (.buf k ys)) (hargs:(xs.map σ.ev++cap).map (AV.toE g)=args)
    (hden:DenR P f args k ys Q) (hK:∀ zs,Q zs→K ⟨σ.n,(d,.own g k 0 zs.length)::nC g σ.slots,(g,.buf k zs)::qO g σ.mem⟩):AOp P w0 p0 o σ K:=by
  intro a w next Q' ⟨h1,h2,p,hE,hs,hm⟩ hn
  obtain ⟨vals,hrun,hrel⟩:=rT (P:=P) ho hent hs hfo
  unfold Oper.wp
  rw[hrun]
  simp only[Oper.upon]
  obtain ⟨x,hx⟩:∃ x,p.o g=some x:=by
    rcases hm.holds g _ hg with h | ⟨b,cur,T,h,_⟩
    · exact⟨_,h.2⟩
    · exact⟨_,h⟩
  have hA:∀ b,p.but g b→b<w.heap.size:=fun b hb=>by
    rcases hb with hb | ⟨g',_,hg'⟩
    · exact Nat.lt_of_lt_of_le (hf.others b (hE.A ▸ hb)) hE.size
    · exact hm.lt hg'
  have hxA:∀ b,x=some b→¬ p.but g b:=by
    rintro b rfl (h | ⟨g',h1,h2⟩)
    · exact hm.avoid g b hx h
    · exact h1 (hm.inj g' g b h2 hx)
  refine(hden (p.but g) w x vals hA hxA ?_ ((hm.holds g _ hg).toE hx)).mono ?_
  · rw[← hargs]
    refine⟨by simpa using hrel.1,fun i c v hc hv=>?_⟩
    rw[List.getElem?_map] at hc
    cases hi:(xs.map σ.ev++cap)[i]? with
    | none=>simp [hi] at hc
    | some c'=>simp [hi] at hc; subst hc; exact(hrel.2 i c' v hi hv).toE hx
  · rintro e w' ⟨v,zs,x',rfl,hQ,hT,hx',hb',hr⟩
    have hp0:p0.o g=none:=hf.names g hgE
    have hsame:∀ b,b<w.heap.size→x≠some b→w'.heap[b]?=w.heap[b]?:=hT.same
    have hnx:∀ b,Stable w p b→x≠some b:=fun b hb e=>hb.2.1 g (by rw[hx,e])
    have hstq:∀ b,Stable w p b→Stable w' (p.upd g (some x')) b:=fun b hb=>⟨Nat.lt_of_lt_of_le hb.1 hT.size,fun g' hg'=>by
      simp only[Hp.upd] at hg'
      split at hg'
      · cases hg'
        rcases hx' b rfl with e | e
        · exact hnx b hb e
        · exact absurd hb.1 (by omega)
      · exact hb.2.1 g' hg',hb.2.2⟩
    have hoth:∀ g' b,g'≠g→p.o g'=some (some b)→x≠some b:=fun g' b hne hb e=>hne (hm.inj g' g b hb (by rw[hx,e]))
    have hmv:∀ a v,RelV w p a v→a.clean (fun x=>x != g)=true→RelV w' (p.upd g (some x')) a v:=fun a v hr hc =>
      hr.move (ok:=fun x=>x != g) (fun b hb=>⟨hstq b hb,hsame b hb.1 (hnx b hb)⟩) (fun g' y hok hy=>by
        have hne:g'≠g:=by simpa using hok
        refine⟨by simp only[Hp.upd]; rw[if_neg hne]; exact hy,fun b hb cur T hh=>⟨cur,?_,rfl⟩⟩
        subst hb
        rw[hsame b (hm.lt hy) (hoth g' b hne hy)]; exact hh) hc
    have hE':Ext w0 p0 w' (p.upd g (some x')):=by
      refine⟨hT.os.trans hE.os,⟨hT.tape.1.trans hE.tape.1,Nat.le_trans hE.tape.2 hT.tape.2⟩,hT.output.trans hE.output,Nat.le_trans hE.size hT.size,hE.A,fun b hb=>?_,fun b hb hAb=>?_,fun g' y hy=>?_⟩
      · have hst:=(hE.stab b hb).1
        exact⟨hstq b hst,by rw[hsame b hst.1 (hnx b hst)]; exact(hE.stab b hb).2⟩
      · have:x≠some b:=fun e=>hm.avoid g b (by rw[hx,e]) (hE.A ▸ hAb)
        rw[hsame b (Nat.lt_of_lt_of_le hb hE.size) this]; exact hE.others b hb hAb
      · have hne:g'≠g:=fun e=>by rw[e,hp0] at hy; cases hy
        simp only[Hp.upd]
        rw[if_neg hne]
        rcases hE.name g' y hy with h | ⟨h,h'⟩
        · exact .inl h
        · refine .inr ⟨h,fun b hb cur T hh=>?_⟩
          obtain ⟨c1,e1,s1⟩:=h' b hb cur T hh
          subst hb
          exact⟨c1,by rw[hsame b (hm.lt h) (hoth g' b hne h)]; exact e1,s1⟩
    have hqg:(p.upd g (some x')).o g=some x':=by simp [Hp.upd]
    have hbq:fE x' ((p.upd g (some x')).but g)=fE x' (p.but g):=by
      congr 1
      funext b
      refine propext ⟨?_,?_⟩
      · rintro (h | ⟨g',hne,h⟩)
        · exact .inl h
        · simp only[Hp.upd] at h; rw[if_neg hne] at h; exact .inr ⟨g',hne,h⟩
      · rintro (h | ⟨g',hne,h⟩)
        · exact .inl h
        · exact .inr ⟨g',hne,by simp only[Hp.upd]; rw[if_neg hne]; exact h⟩
    rw[← hbq] at hb' hr
    have hAM:=hb'.fromE hqg
    have hrv:=hr.fromE hqg
    simp only[AV.fromE,if_pos] at hrv
    refine hn _ _ _ (hK zs hQ) ?_
    rw[hdst]
    refine uK h1 h2 hs hm g hE' hmv (fun g' hne=>by simp only[Hp.upd]; rw[if_neg hne]) (fun b g' hne hb=>hsame b (hm.lt hb) (hoth g' b hne hb)) hAM (fun g' b hne hb hb2=>?_) (fun b hb hAb=>?_) rfl hd hrv
    · rw[hqg] at hb; cases hb
      rcases hx' b rfl with e | e
      · exact hoth g' b hne hb2 e
      · have:=hm.lt hb2; omega
    · rw[hqg] at hb; cases hb
      rcases hx' b rfl with e | e
      · exact hm.avoid g b (by rw[hx,e]) hAb
      · have:=hA b (.inl hAb); omega
section
variable {n:Nat} {sl:List (Nat×AV)} {m:Mem} {ops:Array Oper} {rest:List Oper} {Q:Exit→St→Prop} {d ty:Nat} {ps:String} {af:Array Edge}
theorem aTe (hf:Fit w0 p0) {fo:Operand} {xs:List Operand} {ts:Array TypeId} {f:Nat} (g:Nat) {k:Nat} {cap args args':List AV} {ys:List (List AV)} {R:List (List AV)→Prop} (hd:lt d n=true) (hgE:lt g E0=true) (hfo:ev sl fo=some (.fn f cap)) (hargs:evs sl cap xs=some args)
    (hg:lk m g=some (.buf k ys)) (hto:args.map (AV.toE g)=args')
    (hent:∀ args w,(callFunc f args).run P w=.ok (.enter f args) w) (hden:DenR P f args' k ys R) (hk:∀ zs,R zs→fL P w0 p0 ops rest ⟨n,(d,.own g k 0 zs.length)::nC g sl,(g,.buf k zs)::qO g m⟩ Q) :
    fL P w0 p0 ops (⟨some d,.call { callee:=.value fo,args:=xs.toArray,argTypes:=ts },ty,ps,af,none⟩::rest) ⟨n,sl,m⟩ Q :=
  gD rfl (aV2 hf rfl rfl (pU hd) (pU hgE) hent (cR hfo) (by rw[← lL]; exact hg) (by rw[uQ hargs]; exact hto) hden hk)
end
end Go.Abs
set_option linter.unusedVariables false
set_option linter.unusedSimpArgs false
namespace Go.Abs
open Go Go.RowKit
variable {P:Program} {w0:World} {p0:Hp}
def iZ (P:Program) (o:Oper) (σ:St) (av:AV):Prop :=
  ∀ (act:Act) (w:World) (p:Hp),SlotsRel w p σ.slots act.tmps→MemRel w p σ.mem→∃ v,(∀ w2,(execOp act.eval o).run P w2=.ok (.value v) w2)∧RelV w p av v
theorem uI {σ:St} {act:Act} {w:World} (w2:World) {p:Hp} (hs:SlotsRel w p σ.slots act.tmps) {x:Operand} {d n y:Nat} (h:bnd σ d (some x)=some n) (hy:n≤y) (code:BoundsCode) :
    (Instr.sliceBound (act.eval x) y code).run P w2=.ok n w2:=by
  simp only[bnd] at h
  split at h
  · rename_i k i hx
    split at h
    · rename_i h0
      cases h
      have hle:i≤(y:Int):=by omega
      simp [Instr.sliceBound,oL hs hx,asIntOf,h0,hle]
    · cases h
  · cases h
theorem aMr {σ:St} {act:Act} {w:World} (w2:World) {p:Hp} (hs:SlotsRel w p σ.slots act.tmps) {lo hi:Option Operand} {len cap l h:Nat} (hl:bnd σ 0 lo=some l) (hh:bnd σ len hi=some h) (h1:l≤h) (h2:h≤cap) :
    (Instr.sliceBounds true len cap (lo.map act.eval) (hi.map act.eval) none).run P w2=.ok (l,h,cap) w2:=by
  cases lo with
  | none =>
    have e1:l=0:=by simpa [bnd] using hl.symm
    subst e1
    cases hi with
    | none =>
              have e2:h=len:=by simpa [bnd] using hh.symm
              subst e2; simp [Instr.sliceBounds]
    | some y=>simp [Instr.sliceBounds,uI w2 hs hh h2]
  | some x =>
    cases hi with
    | none =>
              have e2:h=len:=by simpa [bnd] using hh.symm
              subst e2; simp [Instr.sliceBounds,uI w2 hs hl h1]
    | some y=>simp [Instr.sliceBounds,uI w2 hs hh h2,uI w2 hs hl h1]
-- aI7
theorem aQt {o:Oper} {σ:St} {x:Operand} (ho:o.op=.move x):iZ P o σ (σ.ev x) :=
  fun act w p hs _=>⟨act.eval x,fun w2=>by simp [execOp,ho],dW hs x⟩
-- aCx
theorem aUf {o:Oper} {σ:St} {op:BinOp} {t yt:TypeId} {x y:Operand} {u v r:Value} (ho:o.op=.binOp op t x y yt) (hx:σ.ev x=.s u) (hy:σ.ev y=.s v)
    (h:uW P op t u v=some r):iZ P o σ (.s r):=by
  intro act w p hs _
  refine⟨r,?_,.s r⟩
  have e1:=oL hs hx
  have e2:=oL hs hy
  intro w2
  have:=aOw (P:=P) h x y w2
  simp only[execOp,ho,e1,e2]
  rw[Sem.run_bind,this]
  simp
-- aM8
theorem yH {o:Oper} {σ:St} {x:Operand} {t u:TypeId} {f off n:Nat} {cs:List AV} (ho:o.op=.fieldAddr t x f) (ht:field? P t f=some (off,u)) (hu:cells? P u=some n) (h0:n≠0)
    (hx:σ.ev x=.adr cs):iZ P o σ (.adr (cs.drop off)):=by
  intro act w p hs _
  obtain ⟨fs,fd,e1,e2,rfl,rfl⟩:=field?_inv ht
  have h1:=dW hs x
  rw[hx] at h1
  generalize hv:act.eval x=v at *
  cases h1 with
  | adr _ b off f hb hkk hcc hr =>
    refine⟨.pointer (some ⟨b,off+fd.offset,none⟩),fun w2=>by simp [execOp,ho,hv,Instr.fieldAt,Instr.sureAddr,run_underlying e1,e2,nT hu h0,kA],.adr _ b _ (fun i=>f (fd.offset+i)) hb (fun c hc=>hkk c (List.mem_of_mem_drop hc)) (fun i c hi=>?_) (fun i c hi=>?_)⟩
    · rw[List.getElem?_drop] at hi
      rw[Nat.add_assoc]; exact hcc _ c hi
    · rw[List.getElem?_drop] at hi
      exact hr _ c hi
-- rG
theorem yG {o:Oper} {σ:St} {x:Operand} {t u:TypeId} {f off n:Nat} {g k j i:Nat} (ho:o.op=.fieldAddr t x f) (ht:field? P t f=some (off,u)) (hu:cells? P u=some n) (h0:n≠0)
    (hx:σ.ev x=.ref g k j i):iZ P o σ (.ref g k j (i+off)):=by
  intro act w p hs _
  obtain ⟨fs,fd,e1,e2,rfl,rfl⟩:=field?_inv ht
  have h1:=dW hs x
  rw[hx] at h1
  generalize hv:act.eval x=v at *
  cases h1 with
  | ref _ _ _ _ b hg =>
    refine⟨.pointer (some ⟨b,j*k+(i+fd.offset),none⟩),fun w2=>by simp [execOp,ho,hv,Instr.fieldAt,Instr.sureAddr,run_underlying e1,e2,nT hu h0,kA,Nat.add_assoc],.ref _ _ _ _ b hg⟩
-- rF
theorem yF {o:Oper} {σ:St} {x i:Operand} {t e:TypeId} {g k off m:Nat} {kd:IntKind} {n:Int} (ho:o.op=.indexAddr t x i) (ht:elem? P t=some e) (hk:cells? P e=some k)
    (hx:σ.ev x=.own g k off m) (hi:σ.ev i=.s (.int kd n)) (hn:0≤n∧n<m):iZ P o σ (.ref g k (off+n.toNat) 0):=by
  intro act w p hs _
  have h1:=dW hs x
  rw[hx] at h1
  have e2:=oL hs hi
  obtain ⟨h0,hlt⟩:=hn
  generalize hv:act.eval x=v at *
  cases h1 with
  | ownn=>omega
  | own0=>omega
  | own _ _ _ _ b cap cur T hg hnc hcap hh hsz =>
    refine⟨.pointer (some ⟨b,off*k+n.toNat*k,none⟩),?_,?_⟩
    · intro w2
      simp [execOp,ho,hv,e2,Instr.indexAt,asIntOf,run_underlying (elem?_inv ht),h0,hlt,eI hk,kA]
    · have:off*k+n.toNat*k=(off+n.toNat)*k+0:=by rw[Nat.add_mul]; rfl
      rw[this]; exact .ref _ _ _ _ b hg
-- aCw
theorem aD5 {o:Oper} {σ:St} {x:Operand} {lo hi:Option Operand} {t e g k off n l h:Nat} (ho:o.op=.slice t x lo hi none) (ht:elem? P t=some e) (hk:cells? P e=some k)
    (hx:σ.ev x=.own g k off n) (hl:bnd σ 0 lo=some l) (hh:bnd σ n hi=some h) (h1:l≤h) (h2:h≤n):iZ P o σ (.own g k (off+l) (h - l)):=by
  intro act w p hs _
  have hr:=dW hs x
  rw[hx] at hr
  obtain ⟨a,cap,hv,hn,hrel⟩:=uL hr (m:=0) h1 h2
  obtain ⟨a',cap',hv',_,hrel'⟩:=uL hr (m:=cap) h1 h2
  rw[hv] at hv'; cases hv'
  have hb:=fun w2=>aMr (P:=P) w2 hs hl hh h1 (Nat.le_trans h2 hn)
  refine⟨_,?_,hrel' (Nat.le_trans h2 hn) (Nat.le_refl _)⟩
  intro w2
  simp [execOp,ho,hv,Instr.sliceAt,Instr.slice,run_underlying (elem?_inv ht),hb w2,eI hk]
theorem aR8 {ops:Array Oper} {Q:Exit→St→Prop} {fuel:Nat} {listed:Array Bool} {σ:St} {o:Oper} {d:Nat} {av:AV} (i:Nat) (hi:ops[i]?=some o) (hns:Region.noSelect ops=true) (hr:(Region.ready .any ops listed).contains i=true) (hfree:Region.free .any ops listed i=true)
    (hg:o.guard=none) (hdst:o.dst=some d) (hd:d<σ.n) (hQ:∀ c σ,¬ Q (.panic c) σ) (hp:iZ P o σ av) (h:qS P w0 p0 ops Q fuel (listed.setIfInBounds i true) (σ.put d av)):qS P w0 p0 ops Q (fuel+1) listed σ:=by
  intro a w hrel
  obtain ⟨h1,h2,p,hE,hs,hm⟩:=hrel
  obtain ⟨v,hrun,hrv⟩:=hp a w p hs hm
  have hput:Rel w0 p0 (σ.put d av) (a.put (some d) v) w:=Rel.putO (σ:=σ) ⟨h1,h2,p,hE,hs,hm⟩ (some d) (fun x hx=>by cases hx; exact hd) av v (fun q hE' hs' hm'=>?_)
  · refine wpAny_first hi (Region.noSelect_spec hns) (fun c a w hq=>?_) fuel listed a w (Region.free_spec hi hfree) (by simpa using hr) (v:=v) (.inl ⟨by simp [Region.wanted,hg],hrun⟩) ?_
    · obtain ⟨σ',h,_⟩:=hq; exact absurd h (hQ c σ')
    · rw[hdst]; exact h _ _ hput
  · obtain ⟨v',hrun',hrv'⟩:=hp a w q hs' hm'
    have:=(hrun w).symm.trans (hrun' w)
    cases this
    exact hrv'
section
variable {n d ty:Nat} {ps:String} {af:Array Edge} {gd:Option (Nat×Bool)} {sl:List (Nat×AV)} {m:Mem}
theorem eA {x:Operand} {a:AV} (hx:ev sl x=some a):iZ P ⟨some d,.move x,ty,ps,af,gd⟩ ⟨n,sl,m⟩ a:=cR (n:=n) (m:=m) hx ▸ aQt rfl
theorem w_bin {op:BinOp} {t yt:TypeId} {x y:Operand} {u v r:Value} (hx:ev sl x=some (.s u)) (hy:ev sl y=some (.s v)) (h:uW P op t u v=some r):iZ P ⟨some d,.binOp op t x y yt,ty,ps,af,gd⟩ ⟨n,sl,m⟩ (.s r):=aUf rfl (cR hx) (cR hy) h
theorem aIt {t yt:TypeId} {x y:Operand} {a b:Int} (hx:ev sl x=some (.s (.int .i64 a))) (hy:ev sl y=some (.s (.int .i64 b))) (h1:-9223372036854775808≤a+b) (h2:a+b≤9223372036854775807):iZ P ⟨some d,.binOp .add t x y yt,ty,ps,af,gd⟩ ⟨n,sl,m⟩ (.s (.int .i64 (a+b))) :=
  w_bin hx hy (by simp [uW,aCh,wrap_i64 h1 h2])
theorem aIs {t yt:TypeId} {x y:Operand} {a b:Int} (hx:ev sl x=some (.s (.int .i64 a))) (hy:ev sl y=some (.s (.int .i64 b))) (h1:-9223372036854775808≤a - b) (h2:a - b≤9223372036854775807):iZ P ⟨some d,.binOp .sub t x y yt,ty,ps,af,gd⟩ ⟨n,sl,m⟩ (.s (.int .i64 (a - b))) :=
  w_bin hx hy (by simp [uW,aCh,wrap_i64 h1 h2])
theorem lU {x i:Operand} {t e g k off c:Nat} {kd:IntKind} {z:Int} (hx:ev sl x=some (.own g k off c)) (hi:ev sl i=some (.s (.int kd z))) (ht:elem? P t=some e) (hc:cells? P e=some k) (hn:0≤z∧z<c) :
    iZ P ⟨some d,.indexAddr t x i,ty,ps,af,gd⟩ ⟨n,sl,m⟩ (.ref g k (off+z.toNat) 0):=yF rfl ht hc (cR hx) (cR hi) hn
theorem jT {x:Operand} {t u f off c:Nat} {cs cs':List AV} (hx:ev sl x=some (.adr cs)) (ht:field? P t f=some (off,u)) (hu:cells? P u=some (c+1)) (he:cs.drop off=cs'):iZ P ⟨some d,.fieldAddr t x f,ty,ps,af,gd⟩ ⟨n,sl,m⟩ (.adr cs') :=
  he ▸ yH rfl ht hu (Nat.succ_ne_zero _) (cR hx)
theorem sZ {x:Operand} {t u f off c g k j i i':Nat} (hx:ev sl x=some (.ref g k j i)) (ht:field? P t f=some (off,u)) (hu:cells? P u=some (c+1)) (he:i+off=i'):iZ P ⟨some d,.fieldAddr t x f,ty,ps,af,gd⟩ ⟨n,sl,m⟩ (.ref g k j i') :=
  he ▸ yG rfl ht hu (Nat.succ_ne_zero _) (cR hx)
theorem aL7 {x:Operand} {lo hi:Option Operand} {t e g k off c l h:Nat} (hx:ev sl x=some (.own g k off c)) (ht:elem? P t=some e) (hc:cells? P e=some k)
    (hl:bnd ⟨n,sl,m⟩ 0 lo=some l) (hh:bnd ⟨n,sl,m⟩ c hi=some h) (h1:l≤h) (h2:h≤c):iZ P ⟨some d,.slice t x lo hi none,ty,ps,af,gd⟩ ⟨n,sl,m⟩ (.own g k (off+l) (h - l)):=aD5 rfl ht hc (cR hx) hl hh h1 h2
theorem bV {ops:Array Oper} {Q:Exit→St→Prop} {fuel:Nat} {listed listed':Array Bool} {op:Op} {av:AV} (i:Nat) (hi:ops[i]?=some ⟨some d,op,ty,ps,af,none⟩) (hns:Region.noSelect ops=true) (hr:((Region.ready .any ops listed).contains i&&Region.free .any ops listed i)=true) (hl:listed.setIfInBounds i true=listed')
    (hd:lt d n=true) (hQ:∀ c σ,¬ Q (.panic c) σ) (hp:iZ P ⟨some d,op,ty,ps,af,none⟩ ⟨n,sl,m⟩ av) (h:qS P w0 p0 ops Q fuel listed' ⟨n,(d,av)::sl,m⟩):qS P w0 p0 ops Q (fuel+1) listed ⟨n,sl,m⟩:=by
  subst hl
  simp only[Bool.and_eq_true] at hr
  exact aR8 i hi hns hr.1 hr.2 rfl rfl (pU hd) hQ hp h
end
end Go.Abs
set_option linter.unusedVariables false
set_option linter.unusedSimpArgs false
namespace Go.Abs
open Go Go.RowKit
variable {P:Program}
def arr? (P:Program) (t:TypeId):Option (Nat×TypeId):=match P.underlying t with
  | some (.array n e)=>some (n,e)
  | _=>none
theorem arr?_inv {t:TypeId} {n e:Nat} (h:arr? P t=some (n,e)):P.underlying t=some (.array n e):=by
  unfold arr? at h
  split at h
  · rename_i h'; cases h; exact h'
  · cases h
theorem aHu {o:Oper} {σ:St} {x i:Operand} {t e m k:Nat} {cs:List AV} {kd:IntKind} {z:Int} (ho:o.op=.indexAddr t x i) (ht:arr? P t=some (m,e)) (hk:cells? P e=some k)
    (hx:σ.ev x=.adr cs) (hi:σ.ev i=.s (.int kd z)) (hz:0≤z∧z<m):iZ P o σ (.adr (cs.drop (z.toNat*k))):=by
  intro act w p hs _
  have h1:=dW hs x
  rw[hx] at h1
  have e2:=oL hs hi
  obtain ⟨h0,hlt⟩:=hz
  generalize hv:act.eval x=v at *
  cases h1 with
  | adr _ b off f hb hkk hcc hr =>
    refine⟨.pointer (some ⟨b,off+z.toNat*k,none⟩),fun w2=>by simp [execOp,ho,hv,e2,Instr.indexAt,Instr.sureAddr,asIntOf,run_underlying (arr?_inv ht),h0,hlt,eI hk,kA],.adr _ b _ (fun i=>f (z.toNat*k+i)) hb (fun c hc=>hkk c (List.mem_of_mem_drop hc)) (fun i c hi=>?_) (fun i c hi=>?_)⟩
    · rw[List.getElem?_drop] at hi
      rw[Nat.add_assoc]; exact hcc _ c hi
    · rw[List.getElem?_drop] at hi
      exact hr _ c hi
section
variable {n:Nat} {sl:List (Nat×AV)} {m:Mem} {d ty:Nat} {ps:String} {af:Array Edge} {gd:Option (Nat×Bool)}
theorem aUh {x i:Operand} {t e q k:Nat} {cs cs':List AV} {kd:IntKind} {z:Int} (hx:ev sl x=some (.adr cs)) (hi:ev sl i=some (.s (.int kd z))) (ht:arr? P t=some (q,e)) (hk:cells? P e=some k)
    (hz:0≤z∧z<q) (he:cs.drop (z.toNat*k)=cs'):iZ P ⟨some d,.indexAddr t x i,ty,ps,af,gd⟩ ⟨n,sl,m⟩ (.adr cs') :=
  he ▸ aHu rfl ht hk (cR hx) (cR hi) hz
theorem xY {x i:Operand} {t e q k:Nat} {cs cs':List AV} {kd:IntKind} {z:Int} (hx:ev sl x=some (.adr cs)) (hi:ev sl i=some (.s (.int kd z))) (ht:arr? P t=some (q,e)) (hk:cells? P e=some k)
    (hz:0≤z∧z<q) (he:cs.drop (z.toNat*k)=cs'):cH P ⟨some d,.indexAddr t x i,ty,ps,af,gd⟩ ⟨n,sl,m⟩ (.adr cs') :=
  fun act w p hs hm=>by
    obtain ⟨v,h1,h2⟩:=aUh (gd:=gd) hx hi ht hk hz he act w p hs hm
    exact⟨v,h1 w,h2⟩
end
end Go.Abs
set_option linter.unusedVariables false
set_option linter.unusedSimpArgs false
namespace Go.Abs
open Go Go.RowKit
variable {P:Program} {w0:World} {p0:Hp}
def scopeQ (Q:Exit→St→Prop):Exit→St→Prop
  | .goto _,_=>False
  | e,σ=>Q e σ
theorem aX3 {c:Code} {σ:St} {Q:Exit→St→Prop} (h:AW P w0 p0 c σ (scopeQ Q)):AW P w0 p0 (.scope c) σ Q:=by
  intro a w hr
  refine wp_scope_straight (wp_mono (h a w hr) ?_)
  rintro e a' w' ⟨σ',h1,h2⟩
  cases e <;> first | exact⟨σ',h1,h2⟩ | exact h1.elim
theorem aX5 {id:Nat} {σ:St} {Q:Exit→St→Prop} (h:Q .normal σ):AW P w0 p0 (.label id) σ Q :=
  fun _ _ hr=>wp_label ⟨σ,h,hr⟩
end Go.Abs
set_option linter.unusedVariables false
set_option linter.unusedSimpArgs false
namespace Go.Abs
open Go Go.RowKit Go.Sort Go.Proofs
variable {P:Program}
def aYp (P:Program) (f:Nat):Prop :=
  ∀ (p:Option Addr) (cap:Nat) (fv:Value) (w:World),Calls P f #[.slice p 0 cap,fv] w fun e w'=>e=.returned (.tuple #[])∧w'=w
section
variable {α:Type} [Inhabited α] {enc:α→Value}
theorem sw_ne {w:World} {blk off n:Nat} {d:Array α} {os:Array Obj} {b:Nat} (h:b≠blk) (hb:b<w.heap.size):(sortWorld enc w blk off n d os).heap[b]?=w.heap[b]?:=by
  unfold sortWorld
  rw[heap_grow_old _ _ (by simpa using hb)]
  simp [putRow,mapBlock,Array.getElem?_modify,Ne.symm h]
theorem sw_eq {w:World} {blk off n:Nat} {d:Array α} {os:Array Obj} {cur:Array Value} {T:TypeId} (h:w.heap[blk]?=some (.cells cur T (0,0))):(sortWorld enc w blk off n d os).heap[blk]?=some (.cells (putCells enc off d cur) T (0,0)):=by
  have hb:blk<w.heap.size:=(Array.getElem?_eq_some_iff.1 h).1
  unfold sortWorld
  rw[heap_grow_old _ _ (by simpa using hb)]
  simp [putRow,mapBlock,Array.getElem?_modify,h,onCells]
theorem sw_size {w:World} {blk off n:Nat} {d:Array α} {os:Array Obj}:(sortWorld enc w blk off n d os).heap.size=w.heap.size+os.size:=by
  unfold sortWorld; simp
end
theorem aXm {W w':World} (hos:w'.os=W.os) (ht:w'.tape=W.tape∧W.drawn≤w'.drawn) (ho:w'.output=W.output) (hs:W.heap.size≤w'.heap.size) (hh:∀ b,b<W.heap.size→w'.heap[b]?=W.heap[b]?) :
    ∃ q os',w'=grow (W.drewN q) os':=by
  refine⟨w'.drawn - W.drawn,w'.heap.extract W.heap.size w'.heap.size,?_⟩
  have hheap:w'.heap=W.heap++w'.heap.extract W.heap.size w'.heap.size:=by
    apply Array.ext_getElem?
    intro i
    rw[Array.getElem?_append]
    split
    · rename_i h; exact hh i h
    · rename_i h
      rw[Array.getElem?_extract]
      have e:W.heap.size+(i - W.heap.size)=i:=by omega
      simp only[e,Nat.min_self]
      split
      · rfl
      · rw[Array.getElem?_eq_none (by omega)]
  cases w' with
  | mk heap tape drawn os output =>
    simp only at hos ht ho hs hheap
    unfold grow World.drewN
    rw[World.mk.injEq]
    refine⟨hheap,ht.1,?_,hos,ho⟩
    show drawn=W.drawn+(drawn - W.drawn)
    omega
end Go.Abs
set_option linter.unusedVariables false
set_option linter.unusedSimpArgs false
namespace Go.Abs
open Go Go.RowKit Go.Sort Go.Proofs
variable {P:Program}
def aYo (P:Program) (f k:Nat):Prop :=
  ∀ (m:Nat) (enc:Fin (m+1)→List Value) (cf:Fin (m+1)→Fin (m+1)→Int) (g:Nat) (cb:Array Value) (blk off cap:Nat) (d:Array (Fin (m+1))) (w:World),(∀ x,(enc x).length=k)→(∀ x,∀ v∈enc x,v.oneCell'=true)→SWO (ltOf cf) →
    (∀ args w,(callFunc g args).run P w=.ok (.enter g args) w)→CmpLays P g cb enc k cf blk off d.size w→HoldsK enc k w blk off d→blk<w.heap.size→d.size<4611686018427387904 →
    Calls P f #[.slice (some ⟨blk,off,none⟩) d.size cap,.func (.func g) #[] cb] w fun e w' =>
      e=.returned (.tuple #[])∧∃ d' n os,PermIn 0 d.size d d'∧SortedIn (ltOf cf) 0 d.size d'∧w'=sortWorldK enc k w blk off n d' os
theorem aQ1 {f g k:Nat} (hk0:0<k) (hS:aYo P f k) (h0:aYp P f) (eg:∀ args w,(callFunc g args).run P w=.ok (.enter g args) w) {α:Type} (ms:List α) (enc:α→List AV) (hlen:∀ a,(enc a).length=k) (hleaf:∀ a∈ms,∀ c∈enc a,c.leaf=true) (cf:α→α→Int)
    (hO:SWO (fun x y=>decide (cf x y<0))) (hcmp:∀ x∈ms,∀ y∈ms,Den P g [.agg (enc x),.agg (enc y)] (·=.s (.int .i64 (cf x y)))) (hsz:ms.length<4611686018427387904) :
    DenM P f [.own E0 k 0 ms.length,.fn g []] k (ms.map enc) (fun r ys=>∃ ms':List α,ms'.Perm ms∧ms'.Pairwise (fun x y=>¬ cf y x<0)∧ys=ms'.map enc):=by
  intro A w x vals hA hx hr hb
  obtain ⟨v0,v1,rfl⟩:∃ v0 v1,vals=[v0,v1]:=by
    have:=hr.1
    match vals,this with
    | [a,b],_=>exact⟨a,b,rfl⟩
  have r0:=hr.2 0 _ v0 rfl rfl
  have r1:=hr.2 1 _ v1 rfl rfl
  by_cases hms:ms=[]
  · subst hms
    obtain ⟨p,cap,rfl⟩:∃ p cap,v0=.slice p 0 cap:=by
      simp only[List.length_nil] at r0
      cases r0 <;> exact⟨_,_,rfl⟩
    refine(h0 p cap v1 w).mono ?_
    rintro e w' ⟨rfl,rfl⟩
    exact⟨_,.s (.tuple #[]),_,rfl,⟨[],.refl _,.nil,rfl⟩,Ext.refl _ _,hb,.s _⟩
  obtain ⟨m,hm⟩:∃ m,ms.length=m+1:=⟨ms.length - 1,by have:=List.length_pos_iff.2 hms; omega⟩
  rcases hb with ⟨hb,_⟩ | ⟨b,cur,T,hbE,hh,hcs,hck,hcell⟩
  · simp [hms] at hb
  have hxb:=(iA hbE).2
  subst hxb
  have hbs:b<w.heap.size:=(Array.getElem?_eq_some_iff.1 hh).1
  obtain ⟨cap,hcap,rfl⟩:∃ cap,ms.length≤cap∧v0=.slice (some ⟨b,0,none⟩) ms.length cap:=by
    generalize hn:ms.length=n at r0
    cases r0 with
    | ownn _ _ _=>omega
    | own _ _ _ _ b' cap cur' T' hg h1 h2 h3 h4 =>
      have:=(iA hg).2; cases this
      exact⟨cap,h1,by simp⟩
    | own0 _ _ _ _ _ _=>omega
  cases r1 with
  | fn _ _ cb hl _ =>
  have hcb:cb=#[]:=by simpa using hl.symm
  subst hcb
  have hcs':ms.length*k≤cur.size:=by simpa using hcs
  let el:Fin (m+1)→α:=fun i=>ms[i.1]'(by omega)
  let e:Fin (m+1)→List Value:=fun i=>(List.range k).map fun j=>cur.getD (i.1*k+j) undef
  let c:Fin (m+1)→Fin (m+1)→Int:=fun i j=>cf (el i) (el j)
  have helm:∀ i,el i∈ms:=fun i=>List.getElem_mem _
  have hel:∀ i,(e i).length=k:=fun i=>by simp [e]
  have hej:∀ (i:Fin (m+1)) (j:Nat) (hj:j<k),cur[i.1*k+j]?=some ((e i)[j]'(by rw[hel]; exact hj))∧RelV w (fE (some b) A) ((enc (el i))[j]'(by rw[hlen]; exact hj)) ((e i)[j]'(by rw[hel]; exact hj)):=fun i j hj=>by
    obtain ⟨v,h1,h2⟩:=hcell i.1 (enc (el i)) j ((enc (el i))[j]'(by rw[hlen]; exact hj)) (by rw[List.getElem?_map,List.getElem?_eq_getElem (show i.1<ms.length by omega)]; rfl) (by simp)
    have:(e i)[j]'(by rw[hel]; exact hj)=v:=by simp only[e,List.getElem_map,List.getElem_range,Array.getD_eq_getD_getElem?,h1,Option.getD_some]
    exact⟨by rw[this]; exact h1,by rw[this]; exact h2⟩
  let d:Array (Fin (m+1)):=Array.ofFn id
  have hds:d.size=ms.length:=by simp [d,hm]
  have hone:∀ x,∀ v∈e x,v.oneCell'=true:=fun x v hv=>by
    obtain ⟨j,hj⟩:=List.getElem?_of_mem hv
    obtain ⟨hj1,hj2⟩:=List.getElem?_eq_some_iff.1 hj
    rw[hel] at hj1
    subst hj2
    exact(hej x j hj1).2.one (AV.one_of_leaf (hleaf _ (helm x) _ (List.getElem_mem _)))
  -- a cell of the flat row
  have hflat:∀ (dk:Array (Fin (m+1))) (t:Nat),dk.size=ms.length→t<ms.length*k→∃ (q:Fin (m+1)),dk[t / k]! =q∧(flatK e k dk)[t]! =(e q)[t % k]'(by rw[hel]; exact Nat.mod_lt _ hk0):=fun dk t hdk ht=>by
    refine⟨_,rfl,?_⟩
    rw[get_flatK e k dk t (by rw[hdk]; exact ht)]
    rw[getElem!_pos]
  have hholds:HoldsK e k w b 0 d:=fun t ht=>by
    rw[size_flatK,hds] at ht
    obtain ⟨q,hq1,hq2⟩:=hflat d t hds ht
    rw[hq2]
    have htk:t / k<ms.length:=Nat.div_lt_of_lt_mul (by rw[Nat.mul_comm]; exact ht)
    have hqv:q.1=t / k:=by
      rw[← hq1,getElem!_pos d (t / k) (by rw[hds]; exact htk)]
      simp [d]
    refine⟨?_,?_⟩
    · simp only[World.cell?,hh,Nat.zero_add]
      have:=(hej q (t % k) (Nat.mod_lt _ hk0)).1
      rw[hqv,Nat.mul_comm (t / k) k,Nat.div_add_mod] at this
      exact this
    · simp [World.frozen?,hh]
  have hswo:SWO (ltOf c):=⟨fun x=>hO.irrefl _,fun x y z h1 h2=>hO.trans _ _ _ h1 h2,fun x y z h1 h2=>hO.ntrans _ _ _ h1 h2⟩
  have swne:∀ (n:Nat) (dk:Array (Fin (m+1))) (os:Array Obj) (b':Nat),b'≠b→b'<w.heap.size→(sortWorldK e k w b 0 n dk os).heap[b']?=w.heap[b']?:=fun n dk os b' h1 h2=>sw_ne (enc:=id) (d:=flatK e k dk) h1 h2
  have swsz:∀ (n:Nat) (dk:Array (Fin (m+1))) (os:Array Obj),(sortWorldK e k w b 0 n dk os).heap.size=w.heap.size+os.size:=fun n dk os=>sw_size (enc:=id) (d:=flatK e k dk)
  have swb:∀ (n:Nat) (dk:Array (Fin (m+1))) (os:Array Obj),(sortWorldK e k w b 0 n dk os).heap[b]?=some (.cells (putCells id 0 (flatK e k dk) cur) T (0,0)):=fun n dk os=>sw_eq (enc:=id) (d:=flatK e k dk) hh
  have hmv:∀ (n:Nat) (dk:Array (Fin (m+1))) (os:Array Obj) (q:Hp) (a:AV) (v:Value),(∀ b',Stable w (fE (some b) A) b'→Stable (sortWorldK e k w b 0 n dk os) q b')→a.leaf=true→RelV w (fE (some b) A) a v→RelV (sortWorldK e k w b 0 n dk os) q a v :=
    fun n dk os q a v hq hlf h=>h.move (ok:=fun _=>false) (fun b' hb'=>⟨hq b' hb',swne n dk os b' (fun h=>hb'.2.1 E0 (by rw[eN,h])) hb'.1⟩) (fun _ _ h _=>by cases h) (AV.clean_of_leaf hlf)
  have hmvs:∀ (n:Nat) (dk:Array (Fin (m+1))) (os:Array Obj) (q:Hp) (i:Fin (m+1)),(∀ b',Stable w (fE (some b) A) b'→Stable (sortWorldK e k w b 0 n dk os) q b')→RelV (sortWorldK e k w b 0 n dk os) q (.agg (enc (el i))) (.agg (e i).toArray):=fun n dk os q i hq=>by
    refine .agg _ _ (by simp [hlen,hel]) (fun j c v hc hv=>?_)
    have hj:j<k:=by rw[← hlen (el i)]; exact(List.getElem?_eq_some_iff.1 hc).1
    obtain ⟨_,h2⟩:=hej i j hj
    have hc':=(List.getElem?_eq_some_iff.1 hc).2
    have hv':v=(e i)[j]'(by rw[hel]; exact hj):=by
      rw[List.getElem?_toArray] at hv
      exact(List.getElem?_eq_some_iff.1 hv).2.symm
    rw[← hc',hv']
    exact hmv n dk os q _ _ hq (hleaf _ (helm i) _ (List.getElem_mem _)) h2
  have hlays:CmpLays P g #[] e k c b 0 d.size w:=by
    intro n os dk hdk i j
    have hst:∀ b',Stable w (fE (some b) A) b'→Stable (sortWorldK e k w b 0 n dk os) (iB fun b'=>A b'∨b'=b) b':=fun b' hb' =>
      ⟨by rw[swsz]; have:=hb'.1; omega,fun _ h=>(by cases h),fun h=>h.elim hb'.2.2 fun h=>hb'.2.1 E0 (by rw[eN,h])⟩
    have hden:=hcmp (el i) (helm i) (el j) (helm j) (fun b'=>A b'∨b'=b) (sortWorldK e k w b 0 n dk os) [.agg (e i).toArray,.agg (e j).toArray]
      (fun b' h=>by
        rw[swsz]
        rcases h with h | h
        · have:=hA b' h; omega
        · rw[h]; omega) ⟨rfl,fun q a v hq hv=>by
        match q,hq,hv with
        | 0,hq,hv=>cases hq; cases hv; exact hmvs _ _ _ _ _ hst
        | 1,hq,hv=>cases hq; cases hv; exact hmvs _ _ _ _ _ hst⟩
    refine hden.mono ?_
    rintro _ w' ⟨v,r,rfl,rfl,hE,hrv⟩
    cases hrv
    refine⟨rfl,aXm hE.os hE.tape hE.output hE.size fun b' hb'=>?_⟩
    by_cases h:A b'∨b'=b
    · exact hE.others b' hb' h
    · exact(hE.stab b' ⟨hb',(fun _ h=>by cases h),h⟩).2
  have main:=hS m e c g #[] b 0 cap d w hel hone hswo eg hlays hholds hbs (by rw[hds]; exact hsz)
  rw[hds] at main
  refine main.mono ?_
  rintro _ w' ⟨rfl,d',n,os,hperm,hsort,rfl⟩
  have hps:d'.size=ms.length:=by rw[hperm.1,hds]
  have hperm':d'.toList.Perm d.toList:=by
    have h:=hperm.2.2
    rw[← hds] at h
    rw[Array.extract_size] at h
    have e2:d'.extract 0 d.size=d':=by rw[← hperm.1]; exact Array.extract_size
    rwa [e2] at h
  have hmsd:ms=d.toList.map el:=by
    apply List.ext_getElem
    · simp [d,hm]
    · intro i h1 h2
      have hid:i<d.size:=by rw[hds]; exact h1
      have:d[i]=(⟨i,by omega⟩:Fin (m+1)):=by simp only[d,Array.getElem_ofFn,id]
      rw[List.getElem_map,Array.getElem_toList]
      show ms[i]=ms[(d[i]).1]'_
      simp only[this]
  have hstab:∀ b',Stable w (fE (some b) A) b'→Stable (sortWorldK e k w b 0 n d' os) (fE (some b) A) b':=fun b' hb'=>⟨by rw[swsz]; have:=hb'.1; omega,hb'.2⟩
  have hne:∀ b',Stable w (fE (some b) A) b'→b'≠b:=fun b' hb' h=>hb'.2.1 E0 (by rw[eN,h])
  refine⟨_,.s (.tuple #[]),_,rfl,⟨d'.toList.map el,?_,?_,rfl⟩,?_,?_,.s _⟩
  · rw[hmsd]; exact hperm'.map el
  · rw[List.pairwise_map,List.pairwise_iff_getElem]
    intro i j hi hj hij
    have hi':i<d'.size:=by simpa using hi
    have hj':j<d'.size:=by simpa using hj
    have:=hsort i j (Nat.zero_le _) hij (by omega)
    rw[getElem!_pos d' i hi',getElem!_pos d' j hj'] at this
    simpa [ltOf,c,el] using this
  · refine⟨rfl,⟨rfl,Nat.le_add_right _ _⟩,rfl,by rw[swsz]; omega,rfl,fun b' hb'=>⟨hstab b' hb',swne _ _ _ b' (hne b' hb') hb'.1⟩,fun b' hb' hAb=>swne _ _ _ b' (fun h=>hx b' (by rw[h]) hAb) hb',fun g' x hg'=>?_⟩
    have:=iA hg'
    obtain ⟨rfl,rfl⟩:=this
    refine .inr ⟨eN _ _,fun b' hb' cur' T' hh'=>?_⟩
    cases hb'
    rw[hh] at hh'; cases hh'
    exact⟨_,swb _ _ _,by simp [putCells]⟩
  · refine .inr ⟨b,putCells id 0 (flatK e k d') cur,T,eN _ _,swb _ _ _,?_,?_,?_⟩
    · simp only[List.length_map,Array.length_toList,hps,putCells,Array.size_mapIdx]; exact hcs'
    · intro y hy
      obtain ⟨a,ha,rfl⟩:=List.mem_map.1 hy
      obtain ⟨i,_,rfl⟩:=List.mem_map.1 ha
      exact⟨hlen _,hleaf _ (helm i)⟩
    · intro j y i a hy ha
      rw[List.getElem?_map,List.getElem?_map] at hy
      cases hd':d'.toList[j]? with
      | none=>simp [hd'] at hy
      | some q =>
        simp [hd'] at hy
        subst hy
        have hi:i<k:=by rw[← hlen (el q)]; exact(List.getElem?_eq_some_iff.1 ha).1
        have ha':=(List.getElem?_eq_some_iff.1 ha).2
        have hj:j<d'.size:=by simpa using (List.getElem?_eq_some_iff.1 hd').1
        have hjk:(j+1)*k≤ms.length*k:=Nat.mul_le_mul_right _ (by omega)
        rw[Nat.add_mul] at hjk
        have hjc:j*k+i<cur.size:=by omega
        obtain ⟨q',hq1,hq2⟩:=hflat d' (j*k+i) hps (by omega)
        have e1:(j*k+i) / k=j:=by rw[Nat.mul_comm,Nat.mul_add_div hk0,Nat.div_eq_of_lt hi,Nat.add_zero]
        have e2:(j*k+i) % k=i:=by rw[Nat.mul_comm,Nat.mul_add_mod,Nat.mod_eq_of_lt hi]
        have hq:q'=q:=by
          rw[← hq1,e1,getElem!_pos d' j hj]
          have:=(List.getElem?_eq_some_iff.1 hd').2
          simpa using this
        subst hq
        simp only[e2] at hq2
        refine⟨(e q')[i]'(by rw[hel]; exact hi),?_,?_⟩
        · have hin:j*k+i<(flatK e k d').size:=by rw[size_flatK,hps]; omega
          simp only[putCells,Array.getElem?_mapIdx,Array.getElem?_eq_getElem hjc,Option.map_some,Nat.zero_le,true_and,Nat.zero_add,Nat.sub_zero,if_pos hin,hq2,id]
        · rw[← ha']
          exact hmv _ _ _ _ _ _ hstab (hleaf _ (helm q') _ (List.getElem_mem _)) (hej q' i hi).2
end Go.Abs
set_option linter.unusedVariables false
set_option linter.unusedSimpArgs false
namespace Go.Abs
open Go Go.RowKit Go.Sort Go.Proofs Go.Lib
variable {P:Program}
section
variable {α:Type} [Inhabited α] {enc:α→Value}
end
end Go.Abs
set_option linter.unusedVariables false
set_option linter.unusedSimpArgs false
namespace Go.Abs
open Go Go.RowKit Go.ChangeShapes Go.WideShapes Go.ChangeAt
variable {P:Program} {H:Type} {enc:TypeId×Value→H}
abbrev tQ:Hp:=iB fun _=>False
theorem oE {W W':World} {q:Hp} (h:Ext W tQ W' q):Below W.heap.size W W' :=
  ⟨h.os,h.tape.1,h.output,h.size,fun k hk=>(h.stab k ⟨hk,(fun _ h=>by cases h),fun h=>h⟩).2⟩
theorem aTk {W:World} {b:Nat} (h:b<W.heap.size):Stable W tQ b:=⟨h,(fun _ h=>by cases h),fun h=>h⟩
theorem aIb {W W':World} (h:Below W.heap.size W W') (may:MemPlace→Prop):W.keptBut W' may:=by
  refine⟨h.os,h.output,fun i hi=>?_⟩
  rw[h.block i hi]
  cases hw:W.heap[i]? with
  | none=>simp
  | some o=>cases o <;> simp
theorem yM {W W':World} (hl:laidOutB P=true) {sp:Nat→Bool} (hsame:∀ b,b<W.heap.size→W'.heap[b]?=W.heap[b]?):∀ {ts:List TypeId} {vs:List Value} {ds:List (DataW H)} {ps:List MemPlace},
    (∀ t∈ts,P.readableRec t=true∧t<P.types.size)→DataW.TrodAll enc P W 0 (fun _=>true) true ts vs ds ps→(∀ p∈ps,p.block<W.heap.size)→(∀ p∈ps,W.sameAt W' p)→(∀ p∈ps,sp p.block=true)→DataW.TrodAll enc P W' 0 sp true ts vs ds ps
  | [],[],[],ps,_,h,_,_,_=>h
  | t::ts,v::vs,d::ds,ps,hr,⟨p,q,h1,h2,e⟩,hlt,hsm,hs=>by
    subst e
    exact⟨p,q,WideElems.Trod_stays hl (hr t (by simp)).1 (hr t (by simp)).2 h1 (fun x hx=>hsm x (by simp [hx])) (fun x hx=>hs x (by simp [hx])),
      yM hl hsame (fun t ht=>hr t (by simp [ht])) h2 (fun x hx=>hlt x (by simp [hx])) (fun x hx=>hsm x (by simp [hx])) (fun x hx=>hs x (by simp [hx])),rfl⟩
theorem tE {fn:Func} {s:ChangeSpec} {apart fresh handsOn again:Bool} {W W':World} {args:Array Value} {ds gs:List (DataW H)} {before:List MemPlace} {t:TypeId}
    (hW:DataW.Whole enc P fn.params.toList s.vars apart W args.toList ds gs before) (hb:Below W.heap.size W W') (hl:laidOutB P=true) (hr:∀ t∈fn.params.toList,P.readableRec t=true∧t<P.types.size)
    (hv:s.vars=[]) (hs:gs=[]→s.fn H ds={ results:=[.lit (.bool true)],args:=ds }) (hres:fn.resultTypes=#[t]) (hone:fn.resultTypes.size=1) (ht:P.underlying t=some .bool) :
    s.post enc P fn apart fresh handsOn again W args (.bool true) W':=by
  have hW':=hW
  obtain ⟨p,q,hA,hV,rfl,hfz,hnd⟩:=hW
  rw[hv] at hV
  have hg:gs=[]∧q=[]:=by
    cases gs with
    | nil=>exact⟨rfl,hV⟩
    | cons g gs=>exact hV.elim
  obtain ⟨rfl,rfl⟩:=hg
  have hlt:=DataW.TrodAll.lt hA
  have hold:∀ x∈p,(fun b=>decide (b<W.heap.size)) x.block=true:=fun x hx=>by simpa using hlt x hx
  have hres':∀ (b:Nat) (sp:Nat→Bool) (hd:Bool),DataW.TrodAll enc P W' b sp hd fn.resultTypes.toList ((Value.bool true).resultList fn.resultTypes.size) [DataW.lit (.bool true)] []:=fun b sp hd=>by
    rw[hres]; exact trodAll_cons_mk (shut_bool ht _) trodAll_mk0
  have hargs:∀ sp:Nat→Bool,(∀ x∈p,sp x.block=true)→DataW.TrodAll enc P W' 0 sp true fn.params.toList args.toList ds p:=fun sp hsp =>
    yM hl hb.block hr hA hlt (fun x hx=>hb.same (hlt x hx)) hsp
  have hvars:∀ sp:Nat→Bool,DataW.TrodVars enc P W' sp s.vars ([]:List (DataW H)) []:=fun sp=>by rw[hv]; rfl
  refine⟨ds,[],p++[],[],p,[],hW',?_,?_,?_,World.keptBut_mono (fun x hx=>⟨hx,.inr (.inl (by simpa using hx))⟩) (aIb hb _),fun _=>?_⟩
  · rw[List.append_nil,hs rfl]; exact hres' _ _ _
  · rw[List.append_nil,hs rfl]; exact hargs _ hold
  · rw[List.append_nil,hs rfl]; exact hvars _
  · refine⟨ok_one hres rfl (okWide_bool_mk ht _),_,_,([]++p)++[],⟨[]++p,[],trodAll_append (hargs _ fun _ _=>rfl) (hres' _ _ _),hvars _,rfl,?_,?_⟩,?_⟩
    · intro b off hp
      have hp':MemPlace.cell b off∈p:=by simpa using hp
      have e:W'.heap[b]?=W.heap[b]?:=hb.block b (hlt _ hp')
      simp only[World.frozen?,e]
      exact hfz b off (by simpa using hp')
    · intro ha
      simpa using hnd ha
    · intro x hx _
      simpa using hx
end Go.Abs
set_option linter.unusedVariables false
set_option linter.unusedSimpArgs false
namespace Go.Abs
open Go Go.RowKit Go.ChangeShapes Go.WideShapes Go.ChangeAt
variable {P:Program} {H:Type} {enc:TypeId×Value→H}
mutual
def Ty:TD→List AV→Prop
  | .bool,cs=>∃ b,cs=[.s (.bool b)]
  | .int k,cs=>∃ n,cs=[.s (.int k n)]∧(Lit.int k n).wf=true
  | .str,cs=>∃ s:ByteArray,cs=[.s (.string s)]∧s.size≤140737488351232
  | .sl b d,cs=>∃ xs,cs=[.sl d.n xs]∧xs.length≤9223372036854775807∧xs.length*b≤140737488351232∧∀ x∈xs,Ty d x
  | .agg ds,cs=>TyL ds cs
def TyL:List TD→List AV→Prop
  | [],cs=>cs=[]
  | d::r,cs=>∃ a b,cs=a++b∧Ty d a∧TyL r b
end
theorem aE3:∀ (k:Nat) (d:TD),SizeOf.sizeOf d<k→∀ cs,Ty d cs→cs.length=d.n
  | 0,d,h,_,_=>by omega
  | k+1,.bool,_,cs,⟨b,h⟩=>by subst h; simp [TD.n]
  | k+1,.int _,_,cs,⟨n,h,_⟩=>by subst h; simp [TD.n]
  | k+1,.str,_,cs,⟨s,h,_⟩=>by subst h; simp [TD.n]
  | k+1,.sl _ _,_,cs,⟨xs,h,_⟩=>by subst h; simp [TD.n]
  | k+1,.agg ds,hk,cs,h=>by
    simp only[TD.n]
    simp only[Ty] at h
    have:∀ (ds:List TD),SizeOf.sizeOf ds<k→∀ cs,TyL ds cs→cs.length=TD.nL ds:=by
      intro ds
      induction ds with
      | nil=>intro _ cs h; simp only[TyL] at h; subst h; simp [TD.nL]
      | cons d r ih =>
        intro hs cs h
        simp only[TyL] at h
        obtain ⟨a,b,rfl,ha,hb⟩:=h
        have h1:=aE3 k d (by simp at hs; omega) a ha
        have h2:=ih (by simp at hs; omega) b hb
        simp [TD.nL,h1,h2]
    exact this ds (by simp at hk; omega) cs h
theorem aBk {d:TD} {cs:List AV} (h:Ty d cs):cs.length=d.n:=aE3 _ d (Nat.lt_succ_self _) cs h
theorem RelL.app {w:World} {p:Hp} {a b:List AV} {x y:List Value} (h:RelL w p a x) (k:RelL w p b y):RelL w p (a++b) (x++y):=by
  refine⟨by simp [h.1,k.1],fun i c v hc hv=>?_⟩
  by_cases hi:i<a.length
  · rw[List.getElem?_append_left hi] at hc
    rw[List.getElem?_append_left (by rw[← h.1]; exact hi)] at hv
    exact h.2 i c v hc hv
  · rw[List.getElem?_append_right (by omega)] at hc
    rw[List.getElem?_append_right (by rw[← h.1]; omega),← h.1] at hv
    exact k.2 _ c v hc hv
theorem RelL.one {w:World} {p:Hp} {c:AV} {v:Value} (h:RelV w p c v):RelL w p [c] [v]:=by
  refine⟨rfl,fun i c' v' hc hv=>?_⟩
  cases i with
  | zero=>simp at hc hv; subst hc; subst hv; exact h
  | succ i=>simp at hc
section
variable {W:World} {base:Nat} {sp:Nat→Bool} {held:Bool}
theorem lK {e:TypeId} {q:Nat}:∀ {l:List (DataW H)} {d:DataW H},d∈l→q∈d.weights P e→q∈DataW.weightsAll P e l
  | [],_,h,_=>by simp at h
  | x::l,d,h,hq=>by
    simp only[DataW.weightsAll,List.mem_append]
    rcases List.mem_cons.1 h with rfl | h
    · exact .inl hq
    · exact .inr (lK h hq)
theorem mT {q:Nat}:∀ {ts:List TypeId} {ds:List (DataW H)} {i:Nat} {t:TypeId} {d:DataW H},ts[i]?=some t→ds[i]?=some d→q∈d.weights P t→q∈DataW.weightsEach P ts ds
  | [],_,_,_,_,h,_,_=>by simp at h
  | _::_,[],_,_,_,_,h,_=>by simp at h
  | t0::ts,d0::ds,i,t,d,ht,hd,hq=>by
    simp only[DataW.weightsEach,List.mem_append]
    cases i with
    | zero=>simp at ht hd; subst ht; subst hd; exact .inl hq
    | succ i=>exact .inr (mT (i:=i) (by simpa using ht) (by simpa using hd) hq)
def vM (P:Program) (t:TypeId) (d:DataW H):Prop:=∀ q∈d.weights P t,q≤reachBytes
theorem iE {ts us:List TypeId} {ds gs:List (DataW H)} (h:(DataW.weightsEach P (ts++us) (ds++gs)).all (·≤reachBytes)=true) {i:Nat} {t:TypeId} {d:DataW H} (ht:ts[i]?=some t) (hd:ds[i]?=some d):vM P t d:=by
  intro q hq
  simp only[List.all_eq_true,decide_eq_true_eq] at h
  have h1:=(List.getElem?_eq_some_iff.1 ht).1
  have h2:=(List.getElem?_eq_some_iff.1 hd).1
  exact h q (mT (i:=i) (by rw[List.getElem?_append_left h1]; exact ht) (by rw[List.getElem?_append_left h2]; exact hd) hq)
def Cells (W:World) (d:TD) (vs:List Value):Prop:=∃ cs,Ty d cs∧RelL W tQ cs vs∧∀ c∈cs,c.leaf=true
theorem aM3 (f:TypeId→Option TD) (IH:∀ t d,f t=some d→∀ fuel vs x,DataW.trod enc P W base sp held fuel t vs=some x→vM P t x.1→Cells W d vs) :
    ∀ (segs:List (Nat×TypeId)) (o:Nat) (ds:List TD) (vs:List Value),kL P f o segs=some ds →
      (∀ s∈segs,∃ fuel x,DataW.trod enc P W base sp held fuel s.2 ((vs.drop s.1).take (P.cellsOf s.2))=some x∧vM P s.2 x.1)→o+TD.nL ds=vs.length →
      ∃ cs,TyL ds cs∧RelL W tQ cs (vs.drop o)∧∀ c∈cs,c.leaf=true:=by
  intro segs
  induction segs with
  | nil =>
    intro o ds vs h _ hl
    simp only[kL,Option.some.injEq] at h
    subst h
    simp only[TD.nL,Nat.add_zero] at hl
    refine⟨[],by simp [TyL],⟨by simp [hl],fun i c v hc _=>by simp at hc⟩,by simp⟩
  | cons s r ih =>
    intro o ds vs h hx hl
    obtain ⟨off,t⟩:=s
    simp only[kL] at h
    split at h
    · rename_i d hd
      split at h
      · rename_i hc
        obtain ⟨rfl,hn⟩:=hc
        cases hr:kL P f (off+d.n) r with
        | none=>simp [hr] at h
        | some es =>
          simp only[hr,Option.map_some,Option.some.injEq] at h
          subst h
          simp only[TD.nL] at hl
          obtain ⟨fuel,x,hx1,hw1⟩:=hx (off,t) (by simp)
          obtain ⟨a,ha1,ha2,ha3⟩:=IH t d hd fuel _ x hx1 hw1
          obtain ⟨b,hb1,hb2,hb3⟩:=ih (off+d.n) es vs hr (fun s hs=>hx s (by simp [hs])) (by omega)
          refine⟨a++b,by simp only[TyL]; exact⟨a,b,rfl,ha1,hb1⟩,?_,fun c hc=>(List.mem_append.1 hc).elim (ha3 c) (hb3 c)⟩
          have e:vs.drop off=(vs.drop off).take (P.cellsOf t)++vs.drop (off+d.n):=by
            rw[← hn,← List.drop_drop]; exact(List.take_append_drop _ _).symm
          rw[e]
          exact ha2.app hb2
      · cases h
    · cases h
theorem aI4:∀ (n:Nat) (t:TypeId) (d:TD),tdOf? P n t=some d→∀ fuel vs x,DataW.trod enc P W base sp held fuel t vs=some x→vM P t x.1→Cells W d vs:=by
  intro n
  induction n with
  | zero=>intro t d h; simp [tdOf?] at h
  | succ n ih =>
    intro t d h fuel vs x hx hlw
    unfold tdOf? at h
    split at h
    · rename_i ht; cases h
      obtain ⟨b,rfl,_⟩:=DataW.trod_bool ht hx
      exact⟨[.s (.bool b)],by simp only[Ty]; exact⟨b,rfl⟩,.one (.s _),by simp [AV.leaf,Value.oneCell']⟩
    · rename_i k ht; cases h
      obtain ⟨z,rfl,_,hw⟩:=DataW.trod_int ht hx
      exact⟨[.s (.int k z)],by simp only[Ty]; exact⟨z,rfl,hw⟩,.one (.s _),by simp [AV.leaf,Value.oneCell']⟩
    · rename_i ht; cases h
      obtain ⟨s,rfl,rfl,hw⟩:=DataW.trod_string ht hx
      have hws:=hlw s.data.toList.length (by simp [DataW.weights])
      exact⟨[.s (.string s)],by simp only[Ty]; exact⟨s,rfl,by simpa [reachBytes] using hws⟩,.one (.s _),by simp [AV.leaf,Value.oneCell']⟩
    · rename_i e ht
      split at h
      · rename_i de hde
        split at h
        · rename_i hn
          obtain ⟨hn,hpos⟩:=hn
          cases h
          have hmx:maxLen=9223372036854775807:=rfl
          rcases Go.Deep.open_slice ht hx with ⟨rfl,_⟩ | ⟨a,len,cap,m,fu,D,Pl,rfl,_,hl,hm,hmm,hxe,hel⟩
          · exact⟨[.sl de.n []],by simp only[Ty]; exact⟨[],rfl,by simp,by simp,by simp⟩,.one (.sln _ _ _ (by simp [maxLen])),by simp [AV.leaf]⟩
          · have hlm:len≤m:=by rw[hmm]; split <;> omega
            have hlen48:len*P.bytesOf e≤140737488351232:=by
              have h0:=hlw ((((List.range len).map D).length+((List.range (m - len)).map fun j=>D (len+j)).length)*P.bytesOf e) (by rw[hxe]; simp [DataW.weights,ht])
              have h1:len*P.bytesOf e≤(((List.range len).map D).length+((List.range (m - len)).map fun j=>D (len+j)).length)*P.bytesOf e:=Nat.mul_le_mul_right _ (by simp)
              have:reachBytes=140737488351232:=rfl
              omega
            have hlD:∀ i,i<len→vM P e (D i):=fun i hi q hq=>hlw q (by
              rw[hxe]
              simp only[DataW.weights,ht,List.mem_cons,List.mem_append]
              exact .inr (.inl (lK (List.mem_map.2 ⟨i,by simpa using hi,rfl⟩) hq)))
            have key:∀ i,i<len→∃ q:List AV×List Value,Ty de q.1∧RelL W tQ q.1 q.2∧(∀ c∈q.1,c.leaf=true)∧W.cells? base (a.add (i*P.cellsOf e)) (P.cellsOf e)=some q.2:=by
              intro i hi
              obtain ⟨cs',h1,h2⟩:=hel i (by omega)
              obtain ⟨cs,k1,k2,k3⟩:=ih e de hde fu cs' _ h2 (hlD i hi)
              exact⟨(cs,cs'),k1,k2,k3,h1⟩
            obtain ⟨g,hg⟩:=Go.Deep.choose_lt key
            by_cases h0:len=0
            · subst h0
              exact⟨[.sl de.n []],by simp only[Ty]; exact⟨[],rfl,by simp,by simp,by simp⟩,.one (.sln _ _ _ hm),by simp [AV.leaf]⟩
            · have hcell:∀ j i,j<len→i<de.n→W.cell? ((a.add (j*de.n)).add i)=(g j).2[i]?:=by
                intro j i hj hi
                have:=(hg j hj).2.2.2
                rw[← hn] at this
                exact(World.cells?_some this).2.2 i hi
              have hlen:∀ j,j<len→(g j).1.length=de.n∧(g j).2.length=de.n:=by
                intro j hj
                have h1:=aBk (hg j hj).1
                exact⟨h1,by rw[← (hg j hj).2.1.1,h1]⟩
              have hspot:a.spot=none:=by
                have h1:=hcell 0 0 (by omega) hpos
                cases hs:a.spot with
                | none=>rfl
                | some x =>
                  exfalso
                  have h2:(g 0).2[0]?≠none:=by
                    have:=(hlen 0 (by omega)).2
                    rw[List.getElem?_eq_getElem (by omega)]; simp
                  rw[← h1] at h2
                  apply h2
                  have:((a.add (0*de.n)).add 0)=a:=by simp [Addr.add]
                  rw[this]
                  simp only[World.cell?,hs]
                  split <;> simp
              have hblk:a.block<W.heap.size:=by
                have h1:=hcell 0 0 (by omega) hpos
                have h2:(g 0).2[0]?≠none:=by
                  have:=(hlen 0 (by omega)).2
                  rw[List.getElem?_eq_getElem (by omega)]; simp
                rw[← h1] at h2
                have:((a.add (0*de.n)).add 0)=a:=by simp [Addr.add]
                rw[this] at h2
                simp only[World.cell?] at h2
                split at h2
                · rename_i h; exact(Array.getElem?_eq_some_iff.1 h).1
                · exact absurd rfl h2
              obtain ⟨b,off,spot⟩:=a
              simp only at hspot hblk
              subst hspot
              have hll:((List.range len).map fun j=>(g j).1).length=len:=by simp
              have hget:∀ (j:Nat) x,((List.range len).map fun j=>(g j).1)[j]?=some x→j<len∧x=(g j).1:=by
                intro j x hj
                rw[List.getElem?_map] at hj
                cases hq:(List.range len)[j]? with
                | none=>simp [hq] at hj
                | some s =>
                  obtain ⟨h1,h2⟩:=List.getElem?_eq_some_iff.1 hq
                  simp at h1 h2
                  subst h2
                  simp [hq] at hj
                  exact⟨h1,hj.symm⟩
              have ty:∀ x∈(List.range len).map fun j=>(g j).1,Ty de x:=by
                intro x hxm
                obtain ⟨j,hj,rfl⟩:=List.mem_map.1 hxm
                exact(hg j (by simpa using hj)).1
              have key:=RelV.slc (w:=W) (p:=tQ) de.n ((List.range len).map fun j=>(g j).1) b off cap (fun j i=>((g j).2[i]?).getD undef) (aTk hblk) (by rw[hll]; exact hl) hm
                (fun x hxm=>by
                  obtain ⟨j,hj,rfl⟩:=List.mem_map.1 hxm
                  have hj':j<len:=by simpa using hj
                  exact⟨(hlen j hj').1,(hg j hj').2.2.1⟩)
                (fun j x i c hj hi=>by
                  obtain ⟨hj',rfl⟩:=hget j x hj
                  have hi':i<de.n:=by rw[← (hlen j hj').1]; exact(List.getElem?_eq_some_iff.1 hi).1
                  have h1:=hcell j i hj' hi'
                  rw[kA,kA] at h1
                  rw[h1,List.getElem?_eq_getElem (by rw[(hlen j hj').2]; exact hi')]
                  rfl)
                (fun j x i c hj hi=>by
                  obtain ⟨hj',rfl⟩:=hget j x hj
                  have hi':i<de.n:=by rw[← (hlen j hj').1]; exact(List.getElem?_eq_some_iff.1 hi).1
                  have hv:(g j).2[i]?=some ((g j).2[i]'(by rw[(hlen j hj').2]; exact hi')):=List.getElem?_eq_getElem _
                  rw[hv]
                  exact(hg j hj').2.1.2 i c _ hi hv)
              rw[hll] at key
              exact⟨[.sl de.n ((List.range len).map fun j=>(g j).1)],by simp only[Ty]; exact⟨_,rfl,by rw[hll]; omega,by rw[hll]; exact hlen48,ty⟩,.one key,by simp [AV.leaf]⟩
        · cases h
      · cases h
    · rename_i fs ht
      split at h
      · rename_i ds hds
        split at h
        · rename_i hn
          cases h
          obtain ⟨xs,fu,_,hxe,hlen,hxl,hf⟩:=DataW.trod_struct ht hx
          obtain ⟨cs,h1,h2,h3⟩:=aM3 (tdOf? P n) (fun t d h=>ih t d h) _ 0 ds vs hds (fun s hs=>by
            obtain ⟨f,hfm,rfl⟩:=List.mem_map.1 hs
            obtain ⟨i,hi⟩:=List.getElem?_of_mem hfm
            have h4:=hf i f (by simpa using hi)
            cases hq:xs[i]? with
            | none =>
              exfalso
              have h5:=(List.getElem?_eq_some_iff.1 hi).1
              simp at h5 hq
              omega
            | some y =>
              refine⟨fu,y,by rw[h4,hq],fun q hq'=>hlw q ?_⟩
              rw[hxe]
              simp only[DataW.weights,ht]
              exact mT (i:=i) (by rw[List.getElem?_map,hi]; rfl) (by rw[List.getElem?_map,hq]; rfl) hq') (by rw[hn,hlen]; omega)
          exact⟨cs,by simp only[Ty]; exact h1,h2,h3⟩
        · cases h
      · cases h
    · rename_i m e ht
      split at h
      · rename_i ds hds
        split at h
        · rename_i hn
          cases h
          obtain ⟨xs,fu,_,hxe,hlen,hxl,hf⟩:=DataW.trod_array ht hx
          obtain ⟨cs,h1,h2,h3⟩:=aM3 (tdOf? P n) (fun t d h=>ih t d h) _ 0 ds vs hds (fun s hs=>by
            obtain ⟨i,him,rfl⟩:=List.mem_map.1 hs
            have hi:i<m:=by simpa using him
            have h4:=hf i hi
            cases hq:xs[i]? with
            | none=>exfalso; simp at hq; omega
            | some y =>
              refine⟨fu,y,by rw[h4,hq],fun q hq'=>hlw q ?_⟩
              rw[hxe]
              simp only[DataW.weights,ht]
              exact lK (List.mem_map.2 ⟨y,List.mem_of_getElem? hq,rfl⟩) hq') (by rw[hn,hlen]; omega)
          exact⟨cs,by simp only[Ty]; exact h1,h2,h3⟩
        · cases h
      · cases h
    · cases h
theorem sF {r:Reach} {b0 n:Nat} {t:TypeId} {v:Value} {d:DataW H} {ps:List MemPlace} {ds:List TD} (ht:tdOf? P n t=some (.agg ds)) (hag:agg? P t=some true)
    (hval:Value.okWide P W r b0 t v) (hd:DataW.Trod enc P W base sp held t v d ps) (hw:vM P t d):∃ cs,TyL ds cs∧RelV W tQ (.agg cs) v:=by
  obtain ⟨fuel,hf⟩:=hd
  obtain ⟨cs,h1,h2,h3⟩:=aI4 n t _ ht fuel _ _ hf hw
  simp only[Ty] at h1
  have:∃ us:Array Value,v=.agg us:=by
    unfold agg? at hag
    unfold Value.okWide at hval
    cases hu:P.underlying t with
    | none=>simp [hu] at hag
    | some q =>
      rw[hu] at hval
      cases q <;> simp_all <;> (obtain ⟨cs,h,_⟩:=hval; exact⟨cs,h⟩)
  obtain ⟨us,rfl⟩:=this
  refine⟨cs,h1,.agg _ _ (by simpa [Value.cells] using h2.1) (fun i c u hc hu=>h2.2 i c u hc (by simpa [Value.cells] using hu))⟩
theorem aTq {r:Reach} {b0 n:Nat} {t:TypeId} {v:Value} {d:DataW H} {ps:List MemPlace} {dd:TD} (ht:tdOf? P n t=some dd) (hag:agg? P t=some false)
    (hval:Value.okWide P W r b0 t v) (hd:DataW.Trod enc P W base sp held t v d ps) (hw:vM P t d):∃ c,Ty dd [c]∧RelV W tQ c v:=by
  obtain ⟨fuel,hf⟩:=hd
  obtain ⟨cs,h1,h2,h3⟩:=aI4 n t _ ht fuel _ _ hf hw
  have:v.cells=#[v]:=by
    unfold agg? at hag
    unfold Value.okWide at hval
    cases hu:P.underlying t with
    | none=>simp [hu] at hag
    | some q =>
      rw[hu] at hval
      cases n with
      | zero=>simp [tdOf?] at ht
      | succ n =>
        unfold tdOf? at ht
        rw[hu] at ht
        cases q <;> simp at ht hag <;> (simp only[Cell.okWide,hu] at hval; cases v <;> simp_all[Cell.ok,Value.cells])
  rw[this] at h2
  obtain ⟨hl,hp⟩:=h2
  match cs,hl with
  | [c],_=>exact⟨c,h1,hp 0 c v rfl rfl⟩
end
theorem xO {α:Type} (enc:α→List AV) (ok:α→Prop) {d:TD} (h:∀ cs,Ty d cs→∃ a,cs=enc a∧ok a):∀ {xs:List (List AV)},(∀ x∈xs,Ty d x)→∃ l:List α,xs=l.map enc∧∀ a∈l,ok a
  | [],_=>⟨[],rfl,by simp⟩
  | x::xs,hx=>by
    obtain ⟨a,rfl,ha⟩:=h x (hx x (by simp))
    obtain ⟨l,rfl,hl⟩:=xO enc ok h (xs:=xs) (fun y hy=>hx y (by simp [hy]))
    exact⟨a::l,rfl,by simpa using ⟨ha,hl⟩⟩
theorem aWj {n:Int} (h:(Lit.int .i64 n).wf=true):-9223372036854775808≤n∧n≤9223372036854775807:=by
  simp [Lit.wf,IntKind.min,IntKind.max,IntKind.bits,IntKind.signed] at h
  omega
end Go.Abs
set_option linter.unusedVariables false
namespace Go.Abs
theorem bs:(∀ b:Bool,((!b)=true)=(b=false))∧(∀ b:Bool,((!b)=false)=(b=true))∧((!true)=false)∧((!false)=true)∧(∀ b:Bool,(!!b)=b)∧(∀ (p:Prop) [Decidable p],(decide p=true)=p)∧(∀ (p:Prop) [Decidable p],(decide p=false)↔¬ p)
   ∧(∀ a b:Int,((a == b)=true)↔a=b)∧(∀ a b:Int,((a == b)=false)↔¬ a=b)∧(∀ a b:Int,((a != b)=true)↔¬ a=b)∧(∀ a b:Int,((a != b)=false)↔a=b)∧(∀ a b:Int,(¬ a<b)↔b≤a)∧(∀ a b:Int,(¬ a≤b)↔b<a)∧(∀ a b:Nat,(¬ a<b)↔b≤a)∧(∀ a b:Nat,(¬ a≤b)↔b<a)
   ∧(∀ a b:Int,a > b↔b<a)∧(∀ a b:Int,a≥b↔b≤a)∧(∀ a b:Nat,a > b↔b<a)∧(∀ a b:Nat,a≥b↔b≤a)∧(∀ a b:Bool,((a&&b)=true)=(a=true∧b=true))∧(∀ a b:Bool,((a||b)=true)=(a=true∨b=true))∧(∀ a b:Nat,((a:Int)<(b:Int))↔a<b)∧(∀ a b:Nat,((a:Int)≤(b:Int))↔a≤b)∧(∀ a b:Nat,((a:Int)=(b:Int))↔a=b)
   ∧(∀ {α:Type} [BEq α] [LawfulBEq α] (a b:α),((a == b)=true)↔a=b)∧(∀ {α:Type} [BEq α] [LawfulBEq α] (a b:α),((a == b)=false)↔a≠b)∧(∀ {α:Type} [BEq α] [LawfulBEq α] (a b:α),((a != b)=true)↔a≠b)∧(∀ {α:Type} [BEq α] [LawfulBEq α] (a b:α),((a != b)=false)↔a=b)∧(∀ {α:Type} (a b:α),(a≠b)=¬ a=b)
   ∧(∀ {α β:Type} (f:α→β) (l:List α),(l.map f).length=l.length)∧(∀ {α:Type} (a:α) (l:List α),(a::l).length=l.length+1)∧(∀ {α:Type},([]:List α).length=0)∧(∀ {α:Type} (a b:List α),(a++b).length=a.length+b.length) :=
  ⟨fun _=>Bool.not_eq_true' _,fun _=>Bool.not_eq_false' _,Bool.not_true,Bool.not_false,Bool.not_not,fun p _=>decide_eq_true_eq,fun p _=>decide_eq_false_iff_not,fun _ _=>beq_iff_eq,fun _ _=>beq_eq_false_iff_ne,fun _ _=>bne_iff_ne,fun _ _=>bne_eq_false_iff_eq,fun _ _=>Int.not_lt,fun _ _=>Int.not_le,fun _ _=>Nat.not_lt,fun _ _=>Nat.not_le,
   fun _ _=>Iff.rfl,fun _ _=>Iff.rfl,fun _ _=>Iff.rfl,fun _ _=>Iff.rfl,Bool.and_eq_true,Bool.or_eq_true,fun _ _=>Int.ofNat_lt,fun _ _=>Int.ofNat_le,fun _ _=>Int.natCast_inj,
   fun _ _=>beq_iff_eq,fun _ _=>beq_eq_false_iff_ne,fun _ _=>bne_iff_ne,fun _ _=>bne_eq_false_iff_eq,fun _ _=>ne_eq _ _,fun _ _=>List.length_map _,fun _ _=>List.length_cons,List.length_nil,fun _ _=>List.length_append⟩
end Go.Abs
set_option linter.unusedVariables false
set_option linter.unusedSimpArgs false
namespace Go.Abs
open Go Go.RowKit
variable {P:Program} {w0:World} {p0:Hp}
def E1:Nat:=1048577
def G1:Nat:=1000001
abbrev Ren:=List (Nat×Nat)
def kG (ρ:Ren):Ren:=ρ.map fun x=>(x.2,x.1)
mutual
def AV.ren (ρ:Ren):AV→AV
  | .own g k off n=>match bL ρ g with
    | some g'=>.own g' k off n
    | none=>.bad
  | .ref g k j f=>match bL ρ g with
    | some g'=>.ref g' k j f
    | none=>.bad
  | .agg cs=>.agg (renL ρ cs)
  | .tup cs=>.tup (renL ρ cs)
  | .fn f cs=>.fn f (renL ρ cs)
  | .s v=>.s v
  | .sl k xs=>.sl k xs
  | .adr cs=>.adr cs
  | .bad=>.bad
def renL (ρ:Ren):List AV→List AV
  | []=>[]
  | c::cs=>c.ren ρ::renL ρ cs
end
theorem aAf (ρ:Ren):∀ cs:List AV,renL ρ cs=cs.map (AV.ren ρ)
  | []=>rfl
  | c::cs=>by rw[renL,aAf ρ cs]; rfl
theorem aFq {ρ:Ren}:∀ {cs:List AV},cs.all AV.still=true→renL ρ cs=cs
  | [],_=>rfl
  | c::cs,h=>by
    rw[List.all_cons,Bool.and_eq_true] at h
    rw[renL,aFq h.2]
    congr 1
    cases c <;> first | rfl | (simp [AV.still] at h)
theorem aM1 {ρ:Ren} {c:AV} (h:c.leaf=true):c.ren ρ=c:=by
  cases c <;> first | rfl | (simp [AV.leaf] at h; done) | (rw[AV.ren,aFq h])
theorem RelV.ren {w:World} {p q:Hp} {ρ:Ren} (hs:∀ b,Stable w p b→Stable w q b) (hn:∀ g g' x,bL ρ g=some g'→p.o g=some x→q.o g'=some x) {a:AV} {v:Value} (h:RelV w p a v):RelV w q (a.ren ρ) v:=by
  induction h with
  | s v=>exact .s v
  | agg cs vs hl _ ih =>
    rw[AV.ren,aAf]
    refine .agg _ _ (by simpa using hl) fun i c v h1 h2=>?_
    rw[List.getElem?_map] at h1
    cases hi:cs[i]? with
    | none=>simp [hi] at h1
    | some c'=>simp [hi] at h1; subst h1; exact ih i c' v hi h2
  | tup cs vs hl _ ih =>
    rw[AV.ren,aAf]
    refine .tup _ _ (by simpa using hl) fun i c v h1 h2=>?_
    rw[List.getElem?_map] at h1
    cases hi:cs[i]? with
    | none=>simp [hi] at h1
    | some c'=>simp [hi] at h1; subst h1; exact ih i c' v hi h2
  | fn f cs vs hl _ ih =>
    rw[AV.ren,aAf]
    refine .fn _ _ _ (by simpa using hl) fun i c v h1 h2=>?_
    rw[List.getElem?_map] at h1
    cases hi:cs[i]? with
    | none=>simp [hi] at h1
    | some c'=>simp [hi] at h1; subst h1; exact ih i c' v hi h2
  | sln k a cap hcap=>exact .sln k a cap hcap
  | slc k xs b off cap f hb hn' hcap hkk hc _ ih =>
    refine .slc k xs b off cap f (hs b hb) hn' hcap hkk hc fun j x i c hj hi=>?_
    have:=ih j x i c hj hi
    rwa [aM1 ((hkk x (List.mem_of_getElem? hj)).2 c (List.mem_of_getElem? hi))] at this
  | ownn g k hg =>
    rw[AV.ren]; split
    · rename_i g' h; exact .ownn _ _ (hn g g' _ h hg)
    · exact .bad _
  | own g k off n b cap cur T hg h1 h2 h3 h4 =>
    rw[AV.ren]; split
    · rename_i g' h; exact .own _ _ _ _ _ _ _ _ (hn g g' _ h hg) h1 h2 h3 h4
    · exact .bad _
  | own0 g k off b a hg =>
    rw[AV.ren]; split
    · rename_i g' h; exact .own0 _ _ _ _ _ (hn g g' _ h hg)
    · exact .bad _
  | adr cs b off f hb hkk hc _ ih =>
    refine .adr cs b off f (hs b hb) hkk hc fun i c hi=>?_
    have:=ih i c hi
    rwa [aM1 (hkk c (List.mem_of_getElem? hi))] at this
  | ref g k j f b hg =>
    rw[AV.ren]; split
    · rename_i g' h; exact .ref _ _ _ _ _ (hn g g' _ h hg)
    · exact .bad _
  | bad v=>exact .bad v
def sU (ρ:Ren):Bool:=decide (ρ.map Prod.fst).Nodup&&decide (ρ.map Prod.snd).Nodup
theorem pV {α:Type}:∀ {l:List (Nat×α)} {k:Nat} {a:α},bL l k=some a→(k,a)∈l
  | [],_,_,h=>by cases h
  | (d,x)::r,k,a,h=>by
    rw[dB] at h
    split at h
    · rename_i e; cases h; subst e; exact List.mem_cons_self
    · exact List.mem_cons_of_mem _ (pV h)
theorem aAs {α:Type}:∀ {l:List (Nat×α)} {k:Nat} {a:α},(l.map Prod.fst).Nodup→(k,a)∈l→bL l k=some a
  | (d,x)::r,k,a,hn,h=>by
    rw[dB]
    rw[List.map_cons,List.nodup_cons] at hn
    rcases List.mem_cons.1 h with e | h
    · cases e; rw[if_pos rfl]
    · have:(k:Nat)∈r.map Prod.fst:=List.mem_map.2 ⟨_,h,rfl⟩
      rw[if_neg (fun e=>hn.1 (by rw[e]; exact this)),aAs hn.2 h]
theorem aN5 (ρ:Ren):(kG ρ).map Prod.fst=ρ.map Prod.snd:=by simp [kG]
theorem aXp (ρ:Ren):(kG ρ).map Prod.snd=ρ.map Prod.fst:=by simp [kG]
theorem aVh (ρ:Ren):kG (kG ρ)=ρ:=by simp [kG,Function.comp_def]
theorem lW {ρ:Ren} (h:sU ρ=true) {e g:Nat}:bL (kG ρ) g=some e↔bL ρ e=some g:=by
  simp only[sU,Bool.and_eq_true,decide_eq_true_eq] at h
  constructor
  · intro hl
    have:=pV hl
    simp only[kG,List.mem_map,Prod.mk.injEq,Prod.exists] at this
    obtain ⟨a,b,hm,rfl,rfl⟩:=this
    exact aAs h.1 hm
  · intro hl
    exact aAs (by rw[aN5]; exact h.2) (List.mem_map.2 ⟨_,pV hl,rfl⟩)
theorem aI0 {ρ:Ren} (h:sU ρ=true):sU (kG ρ)=true:=by
  simp only[sU,Bool.and_eq_true,decide_eq_true_eq] at h ⊢
  exact⟨by rw[aN5]; exact h.2,by rw[aXp]; exact h.1⟩
def gH:Ren→Mem→Mem
  | [],_=>[]
  | (e,g)::r,m=>match bL m g with
    | some a=>(e,a)::gH r m
    | none=>gH r m
theorem aNd {ρ:Ren} {m:Mem} {e:Nat}:e ∉ ρ.map Prod.fst→bL (gH ρ m) e=none:=by
  induction ρ with
  | nil=>intro _; rfl
  | cons x r ih =>
    obtain ⟨e0,g0⟩:=x
    intro h
    simp only[List.map_cons,List.mem_cons,not_or] at h
    rw[gH]; split
    · rw[dB,if_neg (fun e=>h.1 e.symm)]; exact ih h.2
    · exact ih h.2
theorem pS {m:Mem}:∀ {ρ:Ren},(ρ.map Prod.fst).Nodup→∀ e,bL (gH ρ m) e=(bL ρ e).bind (bL m)
  | [],_,_=>rfl
  | (e0,g0)::r,h,e=>by
    rw[List.map_cons,List.nodup_cons] at h
    rw[gH,dB (l:=r)]
    by_cases he:e0=e
    · subst he
      rw[if_pos rfl]
      cases hg:bL m g0 with
      | none=>rw[show bL (match (none:Option AM) with | some a=>(e0,a)::gH r m | none=>gH r m) e0=bL (gH r m) e0 from rfl,aNd h.1]; exact hg.symm
      | some a=>show bL ((e0,a)::gH r m) e0=_; rw[dB,if_pos rfl]; exact hg.symm
    · rw[if_neg he,← pS h.2 e]
      cases hg:bL m g0 with
      | none=>rfl
      | some a=>show bL ((e0,a)::gH r m) e=_; rw[dB,if_neg he]
def AM.isBuf:AM→Bool
  | .buf _ _=>true
  | _=>false
def aGz (m:Mem):Bool:=m.all fun x=>x.2.isBuf
theorem aJ0 {m:Mem} (h:aGz m=true) {g:Nat} {a:AM} (hl:bL m g=some a):a.isBuf=true:=List.all_eq_true.1 h _ (pV hl)
theorem AMRel.rename {w:World} {p q:Hp} (hs:∀ b,Stable w p b→Stable w q b) {g g':Nat} {a:AM} (hb:a.isBuf=true) (ho:∀ x,p.o g=some x→q.o g'=some x) (h:AMRel w p g a):AMRel w q g' a:=by
  cases a with
  | box cs=>cases hb
  | buf k xs =>
    rcases h with ⟨h1,h2⟩ | ⟨b,cur,T,h1,h2,h3,h4,h5⟩
    · exact .inl ⟨h1,ho _ h2⟩
    · refine .inr ⟨b,cur,T,ho _ h1,h2,h3,h4,fun j y i c hy hc=>?_⟩
      obtain ⟨u,hu,hr⟩:=h5 j y i c hy hc
      exact⟨u,hu,hr.move (ok:=fun _=>false) (fun b hb=>⟨hs b hb,rfl⟩) (fun _ _ h _=>by cases h) (AV.clean_of_leaf ((h4 y (List.mem_of_getElem? hy)).2 c (List.mem_of_getElem? hc)))⟩
structure TookX (w:World) (o:aJ6) (w':World):Prop where
  os:w'.os=w.os
  tape:w'.tape=w.tape∧w.drawn≤w'.drawn
  output:w'.output=w.output
  size:w.heap.size≤w'.heap.size
  same:∀ b,b<w.heap.size→(∀ g,o g≠some (some b))→w'.heap[b]?=w.heap[b]?
def DenX (P:Program) (f:Nat) (args:List AV) (m0:Mem) (Q:AV→Mem→Prop):Prop :=
  ∀ (A:Nat→Prop) (w:World) (o:aJ6) (vals:List Value),(∀ b,A b→b<w.heap.size)→(∀ g,g<E0→o g=none)→MemRel w ⟨o,A⟩ m0→RelL w ⟨o,A⟩ args vals →
    Calls P f vals.toArray w (fun e w'=>∃ v r m1 o',e=.returned v∧Q r m1∧TookX w o w'∧(∀ g b,o' g=some (some b)→(∃ g',o g'=some (some b))∨w.heap.size≤b)∧MemRel w' ⟨o',A⟩ m1∧aGz m1=true∧RelV w' ⟨o',A⟩ r v)
theorem DenX.mono {f:Nat} {args:List AV} {m0:Mem} {Q Q':AV→Mem→Prop} (h:DenX P f args m0 Q) (hq:∀ r m,Q r m→Q' r m):DenX P f args m0 Q' :=
  fun A w o vals h1 h2 h3 h4=>(h A w o vals h1 h2 h3 h4).mono fun e w' ⟨v,r,m1,o',e1,e2,e3⟩=>⟨v,r,m1,o',e1,hq _ _ e2,e3⟩
def retX (P:Program) (fn:Func) (Q:AV→Mem→Prop):Exit→St→Prop
  | .ret,σ=>∃ σ' ρ r,Le σ σ'∧sU ρ=true∧aGz (gH ρ σ'.mem)=true∧zU P fn σ'=some r∧Q (r.ren (kG ρ)) (gH ρ σ'.mem)
  | .normal,σ=>∃ σ' ρ r,Le σ σ'∧sU ρ=true∧aGz (gH ρ σ'.mem)=true∧zU P fn σ'=some r∧Q (r.ren (kG ρ)) (gH ρ σ'.mem)
  | _,_=>False
def via (ρ:Ren) (o:aJ6):aJ6:=fun g=>(bL ρ g).bind o
theorem tA {ρ:Ren} {o:aJ6} {g:Nat} {x:Option Nat} (h:via ρ o g=some x):∃ e,bL ρ g=some e∧o e=some x:=Option.bind_eq_some_iff.1 h
theorem aC2 {w:World} {p:Hp} {m:Mem} {A':Nat→Prop} (hm:MemRel w p m) {ρ:Ren} (hρ:sU ρ=true) (hb:aGz (gH ρ m)=true) (hst:∀ b,Stable w p b→Stable w ⟨via ρ p.o,A'⟩ b) (hav:∀ e b,via ρ p.o e=some (some b)→¬ A' b):MemRel w ⟨via ρ p.o,A'⟩ (gH ρ m):=by
  have hn1:(ρ.map Prod.fst).Nodup:=by have:=hρ; simp only[sU,Bool.and_eq_true,decide_eq_true_eq] at this; exact this.1
  refine⟨fun g hl=>?_,fun g a hl=>?_,fun g g' b h1 h2=>?_,fun g b h=>hav g b h⟩
  · rw[pS hn1] at hl
    show (bL ρ g).bind p.o=none
    cases h:bL ρ g with
    | none=>rfl
    | some e=>rw[h] at hl; exact hm.dom e hl
  · have hab:=aJ0 hb hl
    rw[pS hn1] at hl
    cases h:bL ρ g with
    | none=>rw[h] at hl; cases hl
    | some e =>
      rw[h] at hl
      exact(hm.holds e a hl).rename hst hab fun x hx=>by show (bL ρ g).bind p.o=some x; rw[h]; exact hx
  · obtain ⟨e1,a1,b1⟩:=tA h1
    obtain ⟨e2,a2,b2⟩:=tA h2
    have:=hm.inj e1 e2 b b1 b2
    subst this
    have c1:=(lW hρ).2 a1
    have c2:=(lW hρ).2 a2
    rw[c1] at c2; cases c2; rfl
theorem uC {w:World} {p:Hp} {ρ:Ren} {b:Nat} (h:Stable w p b):Stable w ⟨via ρ p.o,p.A⟩ b:=⟨h.1,fun g hg=>by obtain ⟨e,_,h2⟩:=tA hg; exact h.2.1 e h2,h.2.2⟩
theorem aF8 {w:World} {p:Hp} {m:Mem} (hm:MemRel w p m) {ρ:Ren} (hρ:sU ρ=true) (hb:aGz (gH ρ m)=true):MemRel w ⟨via ρ p.o,p.A⟩ (gH ρ m) :=
  aC2 hm hρ hb (fun _ h=>uC h) fun e b h=>by obtain ⟨g,_,h2⟩:=tA h; exact hm.avoid g b h2
theorem aM2 {w:World} {p:Hp} {ρ:Ren} (hρ:sU ρ=true) {a:AV} {v:Value} (h:RelV w p a v):RelV w ⟨via ρ p.o,p.A⟩ (a.ren (kG ρ)) v :=
  h.ren (fun b hb=>uC hb) fun g g' x hl hx=>by show (bL ρ g').bind p.o=some x; rw[(lW hρ).1 hl]; exact hx
def lows (ρ:Ren):Bool:=ρ.all fun x=>Nat.ble (x.2+1) E0
theorem lows_of {ρ:Ren} (h:lows ρ=true) {e g:Nat} (hl:bL ρ e=some g):g<E0:=Nat.le_of_ble_eq_true (List.all_eq_true.1 h _ (pV hl))
theorem jN {f:Nat} {fn:Func} {c:Code} {args args':List AV} {m0 m':Mem} {Q:AV→Mem→Prop} (ρ:Ren) (hf:P.funcs[f]?=some fn) (hb:fn.body=some c) (hn:args.length≤fn.ntmps) (hargs:args.map (AV.ren ρ)=args') (hm':gH (kG ρ) m0=m')
    (hρ:sU ρ=true) (hlo:lows ρ=true) (hbf:aGz m'=true)
    (h:∀ w0 o A,Fit w0 ⟨o,A⟩→AW P w0 ⟨o,A⟩ c ⟨fn.ntmps,iD 0 args',m'⟩ (retX P fn Q)):DenX P f args m0 Q:=by
  subst hargs; subst hm'
  intro A w o vals hA hdom hmem hr
  refine calls_of_wp hf hb ?_
  have hfit:Fit w ⟨o,A⟩:=⟨hdom,hA⟩
  have hfl:sU (kG ρ)=true:=aI0 hρ
  have hrel:Rel w ⟨o,A⟩ ⟨fn.ntmps,iD 0 (args.map (AV.ren ρ)),gH (kG ρ) m0⟩ { tmps:=vals.toArray++Array.replicate (fn.ntmps - vals.toArray.size) undef,defers:=[] } w:=by
    refine⟨rfl,by have:=hr.1; simp; omega,⟨via (kG ρ) o,A⟩,⟨rfl,⟨rfl,Nat.le_refl _⟩,rfl,Nat.le_refl _,rfl,fun b hb=>⟨uC (p:=⟨o,A⟩) hb,rfl⟩,fun _ _ _=>rfl,fun g y hg=>?_⟩,fun t a ht=>?_,aF8 (p:=⟨o,A⟩) hmem hfl hbf⟩
    · left
      show (bL (kG ρ) g).bind o=none
      cases hl:bL (kG ρ) g with
      | none=>rfl
      | some e =>
        have hg0:=hdom g (lows_of hlo ((lW hρ).1 hl))
        rw[show o g=some y from hg] at hg0
        cases hg0
    · obtain ⟨_,ht⟩:=jW _ 0 t a ht
      simp only[Nat.sub_zero] at ht
      rw[List.getElem?_map] at ht
      cases hi:args[t]? with
      | none=>simp [hi] at ht
      | some c' =>
        simp [hi] at ht; subst ht
        have hlt:t<vals.length:=by rw[← hr.1]; exact(List.getElem?_eq_some_iff.1 hi).1
        refine⟨vals[t]'hlt,by rw[Array.getElem?_append_left (by simpa using hlt)]; simp [hlt],?_⟩
        have:=aM2 (p:=⟨o,A⟩) hfl (hr.2 t c' (vals[t]'hlt) hi (by simp [hlt]))
        rwa [aVh] at this
  refine wp_mono (h w o A hfit _ w hrel) ?_
  rintro e a' w' ⟨σ',hq,hrel'⟩
  have fin:(∃ σ'' ρ r,Le σ' σ''∧sU ρ=true∧aGz (gH ρ σ''.mem)=true∧zU P fn σ''=some r∧Q (r.ren (kG ρ)) (gH ρ σ''.mem))→a'.defers=[]∧∃ v,(results fn a'.tmps).run P w'=.ok v w' ∧
      ∃ v' r m1 o',Ending.returned v=.returned v'∧Q r m1∧TookX w o w'∧(∀ g b,o' g=some (some b)→(∃ g',o g'=some (some b))∨w.heap.size≤b)∧MemRel w' ⟨o',A⟩ m1∧aGz m1=true∧RelV w' ⟨o',A⟩ r v':=by
    rintro ⟨σ'',ρ',r,hle,hρ',hbs,hres,hQ⟩
    obtain ⟨h1,h2,p,hE,hs,hm⟩:=hle _ _ _ _ hrel'
    obtain ⟨v,hv,hrv⟩:=wX hs hm _ hres
    have hpA:p.A=A:=hE.A
    have hm1:=aF8 hm hρ' hbs
    have hr1:=aM2 hρ' hrv
    rw[hpA] at hm1 hr1
    refine⟨h1,v,hv,v,_,_,via ρ' p.o,rfl,hQ,⟨hE.os,hE.tape,hE.output,hE.size,fun b hb hno=>?_⟩,fun g b hg=>?_,hm1,hbs,hr1⟩
    · by_cases hAb:A b
      · exact hE.others b hb hAb
      · exact(hE.stab b ⟨hb,hno,hAb⟩).2
    · obtain ⟨e,_,he⟩:=tA hg
      by_cases hb:b<w.heap.size
      · left
        by_cases hno:∃ g',o g'=some (some b)
        · exact hno
        · exfalso
          by_cases hAb:A b
          · exact hm.avoid e b he (hpA ▸ hAb)
          · exact(hE.stab b ⟨hb,fun g' hg'=>hno ⟨g',hg'⟩,hAb⟩).1.2.1 e he
      · right; omega
  cases e with
  | normal=>exact fin hq
  | ret=>exact fin hq
  | _=>exact hq.elim
def aNo (ks:List Nat) (a:AV):AV:=if a.clean (fun x=>!ks.contains x)=true then a else .bad
def rO (ks:List Nat):List (Nat×AV)→List (Nat×AV)
  | []=>[]
  | (t,a)::r=>(t,aNo ks a)::rO ks r
def aT1 (ks:List Nat):AM→AM
  | .box cs=>.box (cs.map (aNo ks))
  | .buf k xs=>.buf k xs
def oA (ks:List Nat):Mem→Mem
  | []=>[]
  | (g,m)::r=>if ks.contains g=true then oA ks r else (g,aT1 ks m)::oA ks r
theorem vK (ks:List Nat):∀ (l:List (Nat×AV)) (t:Nat),bL (rO ks l) t=(bL l t).map (aNo ks)
  | [],_=>rfl
  | (d,a)::r,t=>by
    simp only[rO,bL]
    split
    · rfl
    · exact vK ks r t
theorem pG (ks:List Nat):∀ (l:Mem) (t:Nat),bL (oA ks l) t=if ks.contains t=true then none else (bL l t).map (aT1 ks)
  | [],t=>by simp [oA,bL]
  | (d,m)::r,t=>by
    rw[oA]
    by_cases e:ks.contains d=true
    · rw[if_pos e,pG ks r t]
      by_cases et:ks.contains t=true
      · rw[if_pos et,if_pos et]
      · rw[if_neg et,if_neg et,dB,if_neg (fun h=>et (by rw[← h]; exact e))]
    · rw[if_neg e,dB,dB,pG ks r t]
      by_cases h:d=t
      · subst h; rw[if_pos rfl,if_pos rfl,if_neg e]; rfl
      · rw[if_neg h,if_neg h]
theorem wM {α:Type}:∀ (a b:List (Nat×α)) (t:Nat),bL (a++b) t=match bL a t with | some x=>some x | none=>bL b t
  | [],_,_=>rfl
  | (d,x)::r,b,t=>by
    rw[List.cons_append,dB,dB]
    by_cases h:d=t
    · rw[if_pos h,if_pos h]
    · rw[if_neg h,if_neg h,wM r b t]
def ends (ρ:Ren):List Nat:=ρ.map Prod.snd
theorem aN8 {ρ:Ren} (h:sU ρ=true) {g:Nat}:(ends ρ).contains g=true↔∃ e,bL ρ e=some g:=by
  have hn:(ρ.map Prod.fst).Nodup:=by have:=h; simp only[sU,Bool.and_eq_true,decide_eq_true_eq] at this; exact this.1
  simp only[List.contains_iff_mem,ends,List.mem_map,Prod.exists,exists_eq_right]
  exact⟨fun⟨e,he⟩=>⟨e,aAs hn he⟩,fun⟨e,he⟩=>⟨e,pV he⟩⟩
def frees (ρ ρ':Ren) (m:Mem):Bool:=ρ'.all fun x=>Nat.ble (x.2+1) E0&&((bL m x.2).isNone||(ends ρ).contains x.2)
def highs (ρ:Ren):Bool:=ρ.all fun x=>Nat.ble E0 x.1
theorem aC8 {ks:List Nat} {w w':World} {p q:Hp} (hmv:∀ a v,RelV w p a v→a.clean (fun x=>!ks.contains x)=true→RelV w' q a v) {a:AV} {v:Value} (h:RelV w p a v):RelV w' q (aNo ks a) v:=by
  unfold aNo
  split
  · rename_i hc; exact hmv a v h hc
  · exact .bad v
theorem aV1 {o:Oper} {σ:St} {K:St→Prop} (hf:Fit w0 p0) {fo:Operand} {xs:List Operand} {ts:Array TypeId} {f d:Nat} {cap args:List AV} {m0:Mem} {Q:AV→Mem→Prop} (ρ ρ':Ren)
    (ho:o.op=.call { callee:=.value fo,args:=xs.toArray,argTypes:=ts }) (hdst:o.dst=some d) (hd:d<σ.n)
    (hent:∀ args w,(callFunc f args).run P w=.ok (.enter f args) w) (hfo:σ.ev fo=.fn f cap) (hargs:(xs.map σ.ev++cap).map (AV.ren (kG ρ))=args) (hm0:gH ρ σ.mem=m0) (hbf:aGz m0=true)
    (hρ:sU ρ=true) (hhi:highs ρ=true) (hρ':sU ρ'=true) (hfr:frees ρ ρ' σ.mem=true)
    (hden:DenX P f args m0 Q) (hK:∀ r m1,Q r m1→K ⟨σ.n,(d,r.ren ρ')::rO (ends ρ) σ.slots,gH (kG ρ') m1++oA (ends ρ) σ.mem⟩):AOp P w0 p0 o σ K:=by
  subst hm0
  intro a w next Q' ⟨h1,h2,p,hE,hs,hm⟩ hn
  obtain ⟨vals,hrun,hrel⟩:=rT (P:=P) ho hent hs hfo
  unfold Oper.wp
  rw[hrun]
  simp only[Oper.upon]
  -- what the call is given,and what it is not
  let B:Nat→Prop:=fun b=>p.A b∨∃ g,(ends ρ).contains g≠true∧p.o g=some (some b)
  have hviaE:∀ g b,via ρ p.o g=some (some b)→∃ g',(ends ρ).contains g'=true∧p.o g'=some (some b):=fun g b hg=>by
    obtain ⟨e,he1,he2⟩:=tA hg
    exact⟨e,(aN8 hρ).2 ⟨g,he1⟩,he2⟩
  have hEvia:∀ g b,(ends ρ).contains g=true→p.o g=some (some b)→∃ e,via ρ p.o e=some (some b):=fun g b hg hb=>by
    obtain ⟨e,he⟩:=(aN8 hρ).1 hg
    exact⟨e,by show (bL ρ e).bind p.o=_; rw[he]; exact hb⟩
  have hBlt:∀ b,B b→b<w.heap.size:=fun b hb=>by
    rcases hb with hb | ⟨g',_,hg'⟩
    · exact Nat.lt_of_lt_of_le (hf.others b (hE.A ▸ hb)) hE.size
    · exact hm.lt hg'
  have hstB:∀ b,Stable w p b→Stable w ⟨via ρ p.o,B⟩ b:=fun b hb=>⟨hb.1,(uC (ρ:=ρ) hb).2.1,fun h=>h.elim hb.2.2 fun⟨g,_,hg⟩=>hb.2.1 g hg⟩
  have hvB:∀ e b,via ρ p.o e=some (some b)→¬ B b:=fun e b he h=>by
    obtain ⟨g2,h2,h3⟩:=hviaE e b he
    rcases h with h | ⟨g',hg',hb'⟩
    · exact hm.avoid g2 b h3 h
    · exact hg' (hm.inj g2 g' b h3 hb' ▸ h2)
  have hmem0:MemRel w ⟨via ρ p.o,B⟩ (gH ρ σ.mem):=aC2 hm hρ hbf hstB hvB
  have hdom:∀ g,g<E0→via ρ p.o g=none:=fun g hg=>by
    show (bL ρ g).bind p.o=none
    cases hl:bL ρ g with
    | none=>rfl
    | some e =>
      have:=Nat.le_of_ble_eq_true (List.all_eq_true.1 hhi _ (pV hl))
      exact absurd hg (by simp only at this; omega)
  refine(hden B w (via ρ p.o) vals hBlt hdom hmem0 ?_).mono ?_
  · rw[← hargs]
    refine⟨by simpa using hrel.1,fun i c v hc hv=>?_⟩
    rw[List.getElem?_map] at hc
    cases hi:(xs.map σ.ev++cap)[i]? with
    | none=>simp [hi] at hc
    | some c' =>
      simp [hi] at hc; subst hc
      exact(hrel.2 i c' v hi hv).ren hstB fun g g' x hl hx=>by show (bL ρ g').bind p.o=some x; rw[(lW hρ).1 hl]; exact hx
  rintro e w' ⟨v,r,m1,o',rfl,hQ,hT,ho',hM,hbm,hr⟩
  have hsame:∀ b,b<w.heap.size→(∀ g,(ends ρ).contains g=true→p.o g≠some (some b))→w'.heap[b]?=w.heap[b]?:=fun b hb h=>hT.same b hb fun g hg=>by
    obtain ⟨g',h1,h2⟩:=hviaE g b hg
    exact h g' h1 h2
  let q:Hp:=⟨fun g=>match bL (kG ρ') g with | some e=>o' e | none=>if (ends ρ).contains g=true then none else p.o g,p.A⟩
  have hq1:∀ g e,bL (kG ρ') g=some e→q.o g=o' e:=fun g e h=>by simp only[q,h]
  have hq2:∀ g,bL (kG ρ') g=none→(ends ρ).contains g=true→q.o g=none:=fun g h h'=>by simp only[q,h,h',if_true]
  have hq3:∀ g,bL (kG ρ') g=none→(ends ρ).contains g≠true→q.o g=p.o g:=fun g h h'=>by simp only[q,h]; rw[if_neg h']
  have hqc:∀ g x,q.o g=some x→(∃ e,bL (kG ρ') g=some e∧o' e=some x)∨(bL (kG ρ') g=none∧(ends ρ).contains g≠true∧p.o g=some x):=fun g x h=>by
    cases hl:bL (kG ρ') g with
    | some e=>rw[hq1 g e hl] at h; exact .inl ⟨e,rfl,h⟩
    | none =>
      by_cases hc:(ends ρ).contains g=true
      · rw[hq2 g hl hc] at h; cases h
      · rw[hq3 g hl hc] at h; exact .inr ⟨rfl,hc,h⟩
  have hnew:∀ g e,bL (kG ρ') g=some e→g<E0∧(bL σ.mem g=none∨(ends ρ).contains g=true):=fun g e h=>by
    have:=List.all_eq_true.1 hfr _ (pV ((lW hρ').1 h))
    simp only[Bool.and_eq_true,Bool.or_eq_true,Option.isNone_iff_eq_none] at this
    exact⟨Nat.le_of_ble_eq_true this.1,this.2⟩
  have hkeepn:∀ g x,(ends ρ).contains g≠true→p.o g=some x→q.o g=some x:=fun g x hc hx=>by
    have:bL (kG ρ') g=none:=by
      cases hl:bL (kG ρ') g with
      | none=>rfl
      | some e =>
        rcases (hnew g e hl).2 with h | h
        · rw[hm.dom g h] at hx; cases hx
        · exact absurd h hc
    rw[hq3 g this hc]; exact hx
  have holdb:∀ g b,(ends ρ).contains g≠true→p.o g=some (some b)→w'.heap[b]?=w.heap[b]?:=fun g b hc hb=>hsame b (hm.lt hb) fun g' hg' hb'=>hc (hm.inj g' g b hb' hb ▸ hg')
  have ho2:∀ e b,o' e=some (some b)→(∃ g',(ends ρ).contains g'=true∧p.o g'=some (some b))∨w.heap.size≤b:=fun e b h=>by
    rcases ho' e b h with ⟨g',hg'⟩ | h
    · exact .inl (hviaE g' b hg')
    · exact .inr h
  have hstq:∀ b,Stable w p b→Stable w' q b∧w'.heap[b]?=w.heap[b]?:=fun b hb=>by
    refine⟨⟨Nat.lt_of_lt_of_le hb.1 hT.size,fun g hg=>?_,hb.2.2⟩,hsame b hb.1 fun g _=>hb.2.1 g⟩
    rcases hqc g _ hg with ⟨e,_,he⟩ | ⟨_,_,he⟩
    · rcases ho2 e b he with ⟨g',_,h⟩ | h
      · exact hb.2.1 g' h
      · exact absurd hb.1 (by omega)
    · exact hb.2.1 g he
  have hmv:∀ a v,RelV w p a v→a.clean (fun x=>!(ends ρ).contains x)=true→RelV w' q a v:=fun a v hr hc =>
    hr.move (ok:=fun x=>!(ends ρ).contains x) hstq (fun g x hok hx=>by
      have hc:(ends ρ).contains g≠true:=by simpa using hok
      exact⟨hkeepn g x hc hx,fun b hb cur T hh=>⟨cur,by subst hb; rw[holdb g b hc hx]; exact hh,rfl⟩⟩) hc
  have hE':Ext w0 p0 w' q:=by
    refine⟨hT.os.trans hE.os,⟨hT.tape.1.trans hE.tape.1,Nat.le_trans hE.tape.2 hT.tape.2⟩,hT.output.trans hE.output,Nat.le_trans hE.size hT.size,hE.A,fun b hb=>?_,fun b hb hAb=>?_,fun g' y hy=>?_⟩
    · have hst:=(hE.stab b hb).1
      exact⟨(hstq b hst).1,(hstq b hst).2.trans (hE.stab b hb).2⟩
    · rw[hsame b (Nat.lt_of_lt_of_le hb hE.size) fun g _ h=>hm.avoid g b h (hE.A ▸ hAb)]; exact hE.others b hb hAb
    · have hlf:bL (kG ρ') g'=none:=by
        cases hl:bL (kG ρ') g' with
        | none=>rfl
        | some e=>rw[hf.names g' (hnew g' e hl).1] at hy; cases hy
      by_cases hc:(ends ρ).contains g'=true
      · exact .inl (hq2 g' hlf hc)
      · rw[hq3 g' hlf hc]
        rcases hE.name g' y hy with h | ⟨h,h'⟩
        · exact .inl h
        · refine .inr ⟨h,fun b hb cur T hh=>?_⟩
          obtain ⟨c1,e1,s1⟩:=h' b hb cur T hh
          subst hb
          exact⟨c1,by rw[holdb g' b hc h]; exact e1,s1⟩
  have hstr:∀ b,Stable w' ⟨o',B⟩ b→Stable w' q b:=fun b hb=>by
    refine⟨hb.1,fun g hg=>?_,fun h=>hb.2.2 (.inl h)⟩
    rcases hqc g _ hg with ⟨e,_,he⟩ | ⟨_,hc,he⟩
    · exact hb.2.1 e he
    · exact hb.2.2 (.inr ⟨g,hc,he⟩)
  have hn1:((kG ρ').map Prod.fst).Nodup:=by have:=aI0 hρ'; simp only[sU,Bool.and_eq_true,decide_eq_true_eq] at this; exact this.1
  have hm':MemRel w' q (gH (kG ρ') m1++oA (ends ρ) σ.mem):=by
    refine⟨fun g hl=>?_,fun g a hl=>?_,fun g g' b e1 e2=>?_,fun g b hg=>?_⟩
    · rw[wM,pS hn1] at hl
      cases hg:bL (kG ρ') g with
      | some e =>
        rw[hq1 g e hg]
        rw[hg] at hl
        cases he:bL m1 e with
        | none=>exact hM.dom e he
        | some a=>simp [he] at hl
      | none =>
        rw[hg] at hl
        simp only[Option.bind_none,pG] at hl
        by_cases hc:(ends ρ).contains g=true
        · exact hq2 g hg hc
        · rw[hq3 g hg hc]
          rw[if_neg hc] at hl
          exact hm.dom g (by simpa using hl)
    · rw[wM,pS hn1] at hl
      have hold:bL (oA (ends ρ) σ.mem) g=some a→AMRel w' q g a:=fun hl=>by
        rw[pG] at hl
        split at hl
        · cases hl
        · rename_i hc
          cases h0:bL σ.mem g with
          | none=>rw[h0] at hl; cases hl
          | some a0 =>
            rw[h0] at hl
            have hA:=hm.holds g a0 h0
            cases a0 with
            | box cs =>
              simp [aT1] at hl; subst hl
              obtain ⟨b,cur,T,e1,e2,e3,e4⟩:=hA
              refine⟨b,cur,T,hkeepn g _ hc e1,by rw[holdb g b hc e1]; exact e2,by simpa using e3,fun i c hc'=>?_⟩
              rw[List.getElem?_map] at hc'
              cases hi:cs[i]? with
              | none=>simp [hi] at hc'
              | some c' =>
                simp [hi] at hc'; subst hc'
                obtain ⟨u,hu,hr⟩:=e4 i c' hi
                exact⟨u,hu,aC8 hmv hr⟩
            | buf k xs =>
              simp [aT1] at hl; subst hl
              rcases hA with ⟨e0,e1⟩ | ⟨b,cur,T,e1,e2,e3,e4,e5⟩
              · exact .inl ⟨e0,hkeepn g _ hc e1⟩
              · exact .inr ⟨b,cur,T,hkeepn g _ hc e1,by rw[holdb g b hc e1]; exact e2,e3,e4,fun j x i c hx hc'=>by
                  obtain ⟨u,hu,hr⟩:=e5 j x i c hx hc'
                  exact⟨u,hu,hmv c u hr (AV.clean_of_leaf ((e4 x (List.mem_of_getElem? hx)).2 c (List.mem_of_getElem? hc')))⟩⟩
      cases hg:bL (kG ρ') g with
      | none=>rw[hg] at hl; exact hold hl
      | some e =>
        rw[hg] at hl
        cases he:bL m1 e with
        | none=>simp only[Option.bind_some,he] at hl; exact hold hl
        | some a1 =>
          simp only[Option.bind_some,he] at hl; cases hl
          exact(hM.holds e _ he).rename hstr (aJ0 hbm he) fun x hx=>by rw[hq1 g e hg]; exact hx
    · rcases hqc g _ e1 with ⟨a1,l1,b1⟩ | ⟨l1,c1,b1⟩ <;> rcases hqc g' _ e2 with ⟨a2,l2,b2⟩ | ⟨l2,c2,b2⟩
      · have:=hM.inj a1 a2 b b1 b2
        subst this
        have d1:=(lW hρ').1 l1
        have d2:=(lW hρ').1 l2
        rw[d1] at d2; cases d2; rfl
      · exfalso
        rcases ho2 a1 b b1 with ⟨g2,h3,h4⟩ | h
        · exact c2 (hm.inj g2 g' b h4 b2 ▸ h3)
        · have:=hm.lt b2; omega
      · exfalso
        rcases ho2 a2 b b2 with ⟨g2,h3,h4⟩ | h
        · exact c1 (hm.inj g2 g b h4 b1 ▸ h3)
        · have:=hm.lt b1; omega
      · exact hm.inj g g' b b1 b2
    · rcases hqc g _ hg with ⟨a1,_,b1⟩ | ⟨_,_,b1⟩
      · exact fun h=>hM.avoid a1 b b1 (.inl h)
      · exact hm.avoid g b b1
  have hr':RelV w' q (r.ren ρ') v:=hr.ren hstr fun g g' x hl hx=>by rw[hq1 g' g ((lW hρ').2 hl)]; exact hx
  refine hn _ _ _ (hK r m1 hQ) ?_
  rw[hdst]
  refine⟨h1,by simpa [Act.put] using h2,q,hE',SlotsRel.put (fun t b hb=>?_) (by rw[h2]; exact hd) hr',hm'⟩
  rw[vK] at hb
  cases hl:bL σ.slots t with
  | none=>simp [hl] at hb
  | some c =>
    simp [hl] at hb; subst hb
    obtain ⟨u,hu,hr⟩:=hs t c hl
    exact⟨u,hu,aC8 hmv hr⟩
section
variable {n:Nat} {sl:List (Nat×AV)} {m:Mem} {ops:Array Oper} {rest:List Oper} {Q:Exit→St→Prop} {d ty:Nat} {ps:String} {af:Array Edge}
theorem jC (hf:Fit w0 p0) {fo:Operand} {xs:List Operand} {ts:Array TypeId} {f:Nat} {cap args args':List AV} {m0:Mem} {R:AV→Mem→Prop} (ρ ρ':Ren) (hd:lt d n=true) (hfo:ev sl fo=some (.fn f cap)) (hargs:evs sl cap xs=some args)
    (hren:args.map (AV.ren (kG ρ))=args') (hm0:gH ρ m=m0) (hbf:aGz m0=true) (hρ:sU ρ=true) (hhi:highs ρ=true) (hρ':sU ρ'=true) (hfr:frees ρ ρ' m=true)
    (hent:∀ args w,(callFunc f args).run P w=.ok (.enter f args) w) (hden:DenX P f args' m0 R) (hk:∀ r m1,R r m1→fL P w0 p0 ops rest ⟨n,(d,r.ren ρ')::rO (ends ρ) sl,gH (kG ρ') m1++oA (ends ρ) m⟩ Q) :
    fL P w0 p0 ops (⟨some d,.call { callee:=.value fo,args:=xs.toArray,argTypes:=ts },ty,ps,af,none⟩::rest) ⟨n,sl,m⟩ Q :=
  gD rfl (aV1 hf ρ ρ' rfl rfl (pU hd) hent (cR hfo) (by rw[uQ hargs]; exact hren) hm0 hbf hρ hhi hρ' hfr hden hk)
end
end Go.Abs
set_option linter.unusedVariables false
set_option linter.unusedSimpArgs false
namespace Go.Abs
open Go Go.RowKit
variable {P:Program} {w0:World} {p0:Hp}
theorem aM {ops:Array Oper} {Q:Exit→St→Prop} {fuel0:Nat} {listed0:Array Bool} {σ0:St} (fuel:Nat) (listed:Array Bool) (σ:St) (h:qS P w0 p0 ops Q fuel listed σ)
    (k:qS P w0 p0 ops Q fuel listed σ→qS P w0 p0 ops Q fuel0 listed0 σ0):qS P w0 p0 ops Q fuel0 listed0 σ0:=k h
theorem aX4 {c:Code} {σ σ':St} {Q:Exit→St→Prop} (hl:Le σ σ') (h:AW P w0 p0 c σ' Q):AW P w0 p0 c σ Q:=fun a w hr=>h a w (hl _ _ _ _ hr)
theorem aAo {ok:Nat→Bool} {mem:Mem} {g k n:Nat} {xs:List (List AV)} (hok:ok g=false) (hl:bL mem g=some (.buf k xs)) (hn:n=xs.length):(AV.own g k 0 n).only ok mem=.sl k xs:=by
  subst hn
  rw[AV.only,hok]
  simp [hl]
section
variable {n:Nat} {sl:List (Nat×AV)} {m:Mem} {d ty:Nat} {ps:String} {af:Array Edge} {gd:Option (Nat×Bool)}
end
theorem aXi {n:Nat} {sl:List (Nat×AV)} {m:Mem} {d:Nat} {a:AV} (h:lk sl d=some a):Le ⟨n,sl,m⟩ ⟨n,(d,a)::sl,m⟩:=fun w0 p0 act w ⟨h1,h2,p,hE,hs,hm⟩=>⟨h1,h2,p,hE,fun t b hb=>by
  rw[dB] at hb
  split at hb
  · rename_i e; subst e; cases hb; exact hs d a (by rw[← lL]; exact h)
  · exact hs t b hb,hm⟩
theorem dY {x y:Code} {d:Nat} {n:Nat} {sl:List (Nat×AV)} {m:Mem} {Q:Exit→St→Prop} {t:Bool} (hc:ev sl (.tmp d)=some (.s (.bool t))) (hc2:lk sl d=some (.s (.bool t))) (h1:t=true→AW P w0 p0 x ⟨n,(d,.s (.bool true))::sl,m⟩ Q) (h2:t=false→AW P w0 p0 y ⟨n,(d,.s (.bool false))::sl,m⟩ Q):AW P w0 p0 (.cond (.tmp d) x y) ⟨n,sl,m⟩ Q :=
  aL hc (fun h=>aX4 (aXi (by rw[hc2,h])) (h1 h)) (fun h=>aX4 (aXi (by rw[hc2,h])) (h2 h))
theorem aAv {n t:Nat} {a a':AV} {sl:List (Nat×AV)} {m:Mem} (h:∀ w p v,RelV w p a v→RelV w p a' v):Le ⟨n,(t,a)::sl,m⟩ ⟨n,(t,a')::sl,m⟩:=fun w0 p0 act w ⟨h1,h2,p,hE,hs,hm⟩=>⟨h1,h2,p,hE,fun t' b hb=>by
  have hb':bL ((t,a')::sl) t'=some b:=hb
  rw[dB] at hb'
  split at hb'
  · rename_i e; subst e; cases hb'
    obtain ⟨v,hv,hr⟩:=hs t a (by show bL ((t,a)::sl) t=_; rw[dB,if_pos rfl])
    exact⟨v,hv,h w p v hr⟩
  · rename_i hne
    exact hs t' b (by show bL ((t,a)::sl) t'=_; rw[dB,if_neg hne]; exact hb'),hm⟩
end Go.Abs
set_option linter.unusedVariables false
set_option linter.unusedSimpArgs false
namespace Go.Abs
open Go Go.RowKit
variable {P:Program} {w0:World} {p0:Hp}
theorem aQ7 (hf:Fit w0 p0) (g h k i:Nat) {n:Nat} {sl:List (Nat×AV)} {m:Mem} {cs:List AV} {a:Act} {w:World} (hE:lt h E0=true) (hl:lk m h=none) (hg:lk m g=some (.box cs)) (hc:cs[i]?=some (.s (.slice none 0 0)))
    (hr:Rel w0 p0 ⟨n,sl,m⟩ a w):Rel w0 p0 ⟨n,sl,mU g (.box (cs.set i (.own h k 0 0))) ((h,.buf k [])::m)⟩ a w:=by
  obtain ⟨h1,h2,p,hX,hs,hm⟩:=hr
  rw[lL] at hl hg
  have hp0:p.o h=none:=hm.dom h hl
  have hk:Keeps w p w (p.upd h (some none)):=by
    refine⟨fun b hb=>⟨⟨hb.1,fun g hg=>?_,hb.2.2⟩,rfl⟩,fun g x hx=>?_,fun g b hg cur T hh=>⟨cur,hh,rfl⟩⟩
    · simp only[Hp.upd] at hg
      split at hg
      · cases hg
      · exact hb.2.1 g hg
    · simp only[Hp.upd]
      split
      · rename_i e; subst e; rw[hp0] at hx; cases hx
      · exact hx
  have hX':Ext w0 p0 w (p.upd h (some none)):=hX.step hk rfl ⟨rfl,Nat.le_refl _⟩ rfl (Nat.le_refl _) rfl (fun _ _ _=>rfl) (fun g h1 h2=>by
    simp only[Hp.upd] at h2
    split at h2
    · rename_i e; subst e; exact hf.names _ (pU hE)
    · exact absurd h1 h2)
  have hgh:h≠g:=fun e=>by rw[← e,hl] at hg; cases hg
  have hsome:(bL ((h,AM.buf k [])::m) g).isSome=true:=by rw[dB,if_neg hgh,hg]; rfl
  refine⟨h1,h2,_,hX',hs.keep hk,⟨fun t ht=>?_,fun t mm ht=>?_,fun t t' b e1 e2=>?_,fun t b e=>?_⟩⟩
  · replace ht:bL (mU g _ ((h,AM.buf k [])::m)) t=none:=ht
    rw[jE _ _ _ hsome] at ht
    split at ht
    · cases ht
    · rw[dB] at ht
      split at ht
      · cases ht
      · rename_i hne; simp only[Hp.upd]; rw[if_neg (fun e=>hne e.symm)]; exact hm.dom t ht
  · replace ht:bL (mU g _ ((h,AM.buf k [])::m)) t=some mm:=ht
    rw[jE _ _ _ hsome] at ht
    split at ht
    · rename_i e; subst e; cases ht
      obtain ⟨b,cur,T,e1,e2,e3,e4⟩:=hm.holds t _ hg
      refine⟨b,cur,T,hk.name _ _ e1,e2,by rw[List.length_set]; exact e3,fun j c hj=>?_⟩
      rw[List.getElem?_set] at hj
      split at hj
      · rename_i eij; subst eij
        split at hj
        · cases hj
          obtain ⟨v,v1,v2⟩:=e4 i _ hc
          cases v2
          exact⟨_,v1,.ownn h k (by simp [Hp.upd])⟩
        · cases hj
      · obtain ⟨v,v1,v2⟩:=e4 j c hj
        exact⟨v,v1,v2.keep hk⟩
    · rw[dB] at ht
      split at ht
      · rename_i e; subst e; cases ht; exact .inl ⟨rfl,by simp [Hp.upd]⟩
      · exact(hm.holds t mm ht).keep hk fun _ _=>rfl
  · simp only[Hp.upd] at e1 e2
    split at e1
    · cases e1
    · split at e2
      · cases e2
      · exact hm.inj t t' b e1 e2
  · simp only[Hp.upd] at e
    split at e
    · cases e
    · exact hm.avoid t b e
section
variable {n:Nat} {sl:List (Nat×AV)} {m:Mem} {cs:List AV} {Q:Exit→St→Prop} {ops:Array Oper} {rest:List Oper}
theorem aDa (hf:Fit w0 p0) (g h k i:Nat) (hE:lt h E0=true) (hl:lk m h=none) (hg:lk m g=some (.box cs)) (hc:cs[i]?=some (.s (.slice none 0 0)))
    (hk:fL P w0 p0 ops rest ⟨n,sl,mU g (.box (cs.set i (.own h k 0 0))) ((h,.buf k [])::m)⟩ Q):fL P w0 p0 ops rest ⟨n,sl,m⟩ Q:=fun a w hr=>hk a w (aQ7 hf g h k i hE hl hg hc hr)
end
end Go.Abs
set_option linter.unusedVariables false
set_option linter.unusedSimpArgs false
namespace Go.Abs
open Go Go.RowKit
variable {P:Program} {w0:World} {p0:Hp}
structure Tf where
  c:Nat
  ag:Bool
  e:Option Nat
  fl:List (Nat×Nat)
abbrev Fx:=List (Nat×Tf)
def aXq (P:Program) (t:Nat):Nat→List (Nat×Nat)→Bool
  | _,[]=>true
  | i,q::r=>decide (field? P t i=some q)&&aXq P t (i+1) r
def tfOk (P:Program) (x:Nat×Tf):Bool :=
  decide (cells? P x.1=some x.2.c)&&(decide (agg? P x.1=some x.2.ag)&&((match x.2.e with | none=>true | some e=>decide (elem? P x.1=some e))&&aXq P x.1 0 x.2.fl))
def aRp (P:Program) (F:Fx):Bool:=F.all (tfOk P)
theorem aXf {α:Type}:∀ {l:List (Nat×α)} {t:Nat} {a:α},lk l t=some a→(t,a)∈l
  | [],_,_,h=>by cases h
  | (d,b)::r,t,a,h=>by
    simp only[lk] at h
    split at h
    · rename_i e; cases h; rw[Nat.eq_of_beq_eq_true e]; exact List.mem_cons_self ..
    · exact List.mem_cons_of_mem _ (aXf h)
theorem aLh {t:Nat}:∀ {l:List (Nat×Nat)} {i j:Nat} {q:Nat×Nat},aXq P t i l=true→l[j]?=some q→field? P t (i+j)=some q
  | [],_,_,_,_,h=>by simp at h
  | x::r,i,j,q,h,hj=>by
    simp only[aXq,Bool.and_eq_true,decide_eq_true_eq] at h
    cases j with
    | zero=>simp at hj; subst hj; exact h.1
    | succ j =>
      have:=aLh h.2 (j:=j) (by simpa using hj)
      rw[show i+(j+1)=i+1+j by omega]; exact this
section
variable {F:Fx} {t:Nat} {f:Tf}
theorem zP (hF:aRp P F=true) (h:lk F t=some f):cells? P t=some f.c∧agg? P t=some f.ag∧(∀ e,f.e=some e→elem? P t=some e)∧aXq P t 0 f.fl=true:=by
  have:=List.all_eq_true.1 hF _ (aXf h)
  simp only[tfOk,Bool.and_eq_true,decide_eq_true_eq] at this
  refine⟨this.1,this.2.1,fun e he=>?_,this.2.2.2⟩
  have h2:=this.2.2.1
  rw[he] at h2
  simpa using h2
end
def sbin (op:BinOp) (u v:Value):Option Value :=
  match u,v with
  | .int k a,.int k' b=>if k=k' then (match op with | .eql=>some (.bool (a == b)) | .neq=>some (.bool (a != b)) | .lss=>aCh .lss k a b | .leq=>aCh .leq k a b | .gtr=>aCh .gtr k a b | .geq=>aCh .geq k a b | _=>none) else none
  | .string a,.string b=>astr op a b
  | _,_=>none
theorem aUn {op:BinOp} {t:TypeId} {u v r:Value} (h:sbin op u v=some r):uW P op t u v=some r:=by
  cases u <;> cases v <;> simp only[sbin,reduceCtorEq] at h <;> simp only[uW]
  · split at h
    · rename_i e; rw[if_pos e]
      cases op <;> first | exact h | (simp at h)
    · cases h
  · exact h
def ldv (f:Tf) (cs:List AV):Option AV :=
  match f.ag with
  | true=>(match Nat.ble f.c cs.length with | true=>some (.agg (cs.take f.c)) | false=>none)
  | false=>cs[0]?
def aIv (F:Fx) (op:Op) (sl:List (Nat×AV)) (m:Mem):Option AV :=
  match op with
  | .move x=>ev sl x
  | .assign x=>ev sl x
  | .pick c x y=>(match ev sl c with | some (.s (.bool true))=>ev sl x | some (.s (.bool false))=>ev sl y | _=>none)
  | .binOp op _ x y _=>(match ev sl x,ev sl y with | some (.s u),some (.s v)=>(match sbin op u v with | some r=>some (.s r) | none=>none) | _,_=>none)
  | .unOp .not _ x=>(match ev sl x with | some (.s (.bool b))=>some (.s (.bool !b)) | _=>none)
  | .extract x i=>(match ev sl x with | some (.tup vs)=>vs[i]? | _=>none)
  | .load t x=>(match lk F t with
    | some f=>(match ev sl x with
      | some (.adr cs)=>ldv f cs
      | some (.ref g k j i)=>(match lk m g with | some mm=>ldv f (mm.at k j i) | none=>none)
      | _=>none)
    | none=>none)
  | .fieldAddr t x i=>(match lk F t with
    | some f=>(match f.fl[i]? with
      | some (off,u)=>(match lk F u with
        | some ⟨_+1,_,_,_⟩=>(match ev sl x with | some (.adr cs)=>some (.adr (cs.drop off)) | some (.ref g k j q)=>some (.ref g k j (q+off)) | _=>none)
        | _=>none)
      | none=>none)
    | none=>none)
  | .field t x i=>(match lk F t with
    | some f=>(match f.fl[i]? with
      | some (off,u)=>(match lk F u with
        | some fu=>(match ev sl x with
          | some (.agg cs)=>(match fu.ag with
            | true=>(match Nat.ble (off+fu.c) cs.length with | true=>some (.agg ((cs.drop off).take fu.c)) | false=>none)
            | false=>cs[off]?)
          | _=>none)
        | none=>none)
      | none=>none)
    | none=>none)
  | .call ⟨.builtin .len,⟨[x]⟩,⟨[t]⟩⟩=>(match lk F t with
    | some ⟨_,_,some _,_⟩=>(match ev sl x with
      | some (.sl _ xs)=>some (.s (.int .i64 xs.length))
      | some (.own _ _ _ c)=>some (.s (.int .i64 c))
      | some (.s (.slice none 0 0))=>some (.s (.int .i64 0))
      | _=>none)
    | _=>none)
  | _=>none
theorem ldv_adr {F:Fx} {t:Nat} {f:Tf} {x:Operand} {sl:List (Nat×AV)} {m:Mem} {n:Nat} {cs:List AV} {av:AV} {d:Nat} {ty:TypeId} {ps:String} {af:Array Edge} {gd:Option (Nat×Bool)} (hF:aRp P F=true) (hl:lk F t=some f) (hx:ev sl x=some (.adr cs)) (h:ldv f cs=some av):cH P ⟨some d,.load t x,ty,ps,af,gd⟩ ⟨n,sl,m⟩ av:=by
  obtain ⟨h1,h2,_,_⟩:=zP hF hl
  unfold ldv at h
  split at h
  · rename_i ha
    split at h
    · rename_i hb; cases h; exact xX hx (by rw[h2,ha]) h1 hb rfl
    · cases h
  · rename_i ha; exact aKs hx (by rw[h2,ha]) h
theorem ldv_ref {F:Fx} {t:Nat} {f:Tf} {x:Operand} {sl:List (Nat×AV)} {m:Mem} {n g k j i:Nat} {mm:AM} {av:AV} {d:Nat} {ty:TypeId} {ps:String} {af:Array Edge} {gd:Option (Nat×Bool)} (hF:aRp P F=true) (hl:lk F t=some f) (hx:ev sl x=some (.ref g k j i)) (hm:lk m g=some mm) (h:ldv f (mm.at k j i)=some av):cH P ⟨some d,.load t x,ty,ps,af,gd⟩ ⟨n,sl,m⟩ av:=by
  obtain ⟨h1,h2,_,_⟩:=zP hF hl
  unfold ldv at h
  split at h
  · rename_i ha
    split at h
    · rename_i hb; cases h; exact cD hx (by rw[h2,ha]) h1 hm hb rfl
    · cases h
  · rename_i ha; exact iW hx (by rw[h2,ha]) hm h
theorem sE {F:Fx} {op:Op} {sl:List (Nat×AV)} {m:Mem} {n:Nat} {av:AV} {d:Nat} {ty:TypeId} {ps:String} {af:Array Edge} {gd:Option (Nat×Bool)} (hF:aRp P F=true) (h:aIv F op sl m=some av):cH P ⟨some d,op,ty,ps,af,gd⟩ ⟨n,sl,m⟩ av:=by
  unfold aIv at h
  split at h
  · exact fZ h
  · exact wG h
  · split at h
    · rename_i hc; exact aW6 hc h
    · rename_i hc; exact aW7 hc h
    · cases h
  · split at h
    · rename_i hx hy
      split at h
      · rename_i hb; cases h; exact fG hx hy (aUn hb)
      · cases h
    · cases h
  · split at h
    · rename_i hx; cases h; exact p_not hx
    · cases h
  · split at h
    · rename_i hx; exact aUw hx h
    · cases h
  · split at h
    · rename_i hl
      split at h
      · rename_i hx; exact ldv_adr hF hl hx h
      · rename_i hx
        split at h
        · rename_i hm; exact ldv_ref hF hl hx hm h
        · cases h
      · cases h
    · cases h
  · split at h
    · rename_i hl
      split at h
      · rename_i hi
        split at h
        · rename_i hu
          obtain ⟨_,_,_,h4⟩:=zP hF hl
          obtain ⟨u1,_,_,_⟩:=zP hF hu
          have hf:=aLh h4 hi
          rw[Nat.zero_add] at hf
          split at h
          · rename_i hx; cases h; exact bM hx hf u1 rfl
          · rename_i hx; cases h; exact aUv hx hf u1 rfl
          · cases h
        · cases h
      · cases h
    · cases h
  · split at h
    · rename_i hl
      split at h
      · rename_i hi
        split at h
        · rename_i hu
          obtain ⟨_,_,_,h4⟩:=zP hF hl
          obtain ⟨u1,u2,_,_⟩:=zP hF hu
          have hf:=aLh h4 hi
          rw[Nat.zero_add] at hf
          split at h
          · rename_i hx
            split at h
            · rename_i ha
              split at h
              · rename_i hb; cases h; exact p_flds hx hf (by rw[u2,ha]) u1 hb rfl
              · cases h
            · rename_i ha; exact p_fld1 hx hf (by rw[u2,ha]) h
          · cases h
        · cases h
      · cases h
    · cases h
  · split at h
    · rename_i hl
      obtain ⟨_,_,h3,_⟩:=zP hF hl
      split at h
      · rename_i hx; cases h; exact aW8 hx (h3 _ rfl)
      · rename_i hx; cases h; exact aUt hx (h3 _ rfl)
      · rename_i hx; cases h; exact aUu hx (h3 _ rfl)
      · cases h
    · cases h
  · cases h
def aFl (F:Fx) (n:Nat) (ops:Array Oper) (m:Mem):Nat→List Oper→List (Nat×AV)→Option (List Oper×List (Nat×AV))
  | 0,l,sl=>some (l,sl)
  | _+1,[],_=>none
  | k+1,⟨some d,op,_,_,_,none⟩::rest,sl=>(match lt d n with
    | true=>(match aIv F op sl m with | some av=>aFl F n ops m k rest ((d,av)::sl) | none=>none)
    | false=>none)
  | k+1,⟨some d,op,_,_,_,some (j,b)⟩::rest,sl=>(match lt d n with
    | true=>(match (ops[j]?).bind (·.dst) with
      | some g=>(match lk sl g,b with
        | some (.s (.bool true)),true=>(match aIv F op sl m with | some av=>aFl F n ops m k rest ((d,av)::sl) | none=>none)
        | some (.s (.bool false)),false=>(match aIv F op sl m with | some av=>aFl F n ops m k rest ((d,av)::sl) | none=>none)
        | some (.s (.bool true)),false=>aFl F n ops m k rest ((d,.s undef)::sl)
        | some (.s (.bool false)),true=>aFl F n ops m k rest ((d,.s undef)::sl)
        | _,_=>none)
      | none=>none)
    | false=>none)
  | _+1,_::_,_=>none
theorem aE {F:Fx} {n:Nat} {ops:Array Oper} {m:Mem} {Q:Exit→St→Prop} (hF:aRp P F=true):∀ (k:Nat) {l l':List Oper} {sl sl':List (Nat×AV)} (h:aFl F n ops m k l sl=some (l',sl')) (hk:fL P w0 p0 ops l' ⟨n,sl',m⟩ Q),fL P w0 p0 ops l ⟨n,sl,m⟩ Q
  | 0,l,l',sl,sl',h,hk=>by simp only[aFl,Option.some.injEq,Prod.mk.injEq] at h; obtain ⟨rfl,rfl⟩:=h; exact hk
  | k+1,[],l',sl,sl',h,hk=>by simp [aFl] at h
  | k+1,⟨none,op,ty,ps,af,gd⟩::rest,l',sl,sl',h,hk=>by simp [aFl] at h
  | k+1,⟨some d,op,ty,ps,af,none⟩::rest,l',sl,sl',h,hk=>by
    simp only[aFl] at h
    split at h
    · rename_i hd
      split at h
      · rename_i hs; exact aH hd (sE hF hs) (aE hF k h hk)
      · cases h
    · cases h
  | k+1,⟨some d,op,ty,ps,af,some (j,b)⟩::rest,l',sl,sl',h,hk=>by
    simp only[aFl] at h
    split at h
    · rename_i hd
      split at h
      · rename_i hg
        split at h
        · rename_i hb
          split at h
          · rename_i hs; exact aX hg hb hd (aH hd (sE hF hs) (aE hF k h hk))
          · cases h
        · rename_i hb
          split at h
          · rename_i hs; exact aX hg hb hd (aH hd (sE hF hs) (aE hF k h hk))
          · cases h
        · rename_i hb; exact aBj hg hb hd (aE hF k h hk)
        · rename_i hb; exact aBj hg hb hd (aE hF k h hk)
        · cases h
      · cases h
    · cases h
def aB5 (sl:List (Nat×AV)):List Nat→List (Nat×AV)
  | []=>[]
  | t::r=>(match lk sl t with | some a=>(t,a)::aB5 sl r | none=>aB5 sl r)
theorem inL_of {l:List Nat} {t:Nat} (h:t∈l):inL l t=true:=by
  induction l with
  | nil=>cases h
  | cons x l ih =>
    simp only[inL]
    rcases List.mem_cons.1 h with rfl | h
    · simp
    · rw[ih h]; split <;> rfl
theorem aB3 {sl:List (Nat×AV)} {looks:List Nat}:∀ {l:List Nat},(∀ t∈l,t∈looks)→aB4 looks sl (aB5 sl l)
  | [],_=>trivial
  | t::r,h=>by
    simp only[aB5]
    split
    · rename_i ha
      exact⟨⟨inL_of (h t (List.mem_cons_self ..)),ha⟩,aB3 fun x hx=>h x (List.mem_cons_of_mem _ hx)⟩
    · exact aB3 fun x hx=>h x (List.mem_cons_of_mem _ hx)
def aTf (ops:Array Oper) (sl:List (Nat×AV)):Option (Nat×Bool)→Option Bool
  | none=>some true
  | some (j,b)=>(match (ops[j]?).bind (·.dst) with
    | some g=>(match lk sl g,b with
      | some (.s (.bool true)),true=>some true
      | some (.s (.bool false)),false=>some true
      | some (.s (.bool true)),false=>some false
      | some (.s (.bool false)),true=>some false
      | _,_=>none)
    | none=>none)
theorem aL6 {ops:Array Oper} {sl:List (Nat×AV)} {d:Nat} {op:Op} {ty:TypeId} {ps:String} {af:Array Edge} {gd:Option (Nat×Bool)} {b:Bool} (h:aTf ops sl gd=some b):lD ops ⟨some d,op,ty,ps,af,gd⟩ (fsl sl)=some b:=by
  cases gd with
  | none=>simp only[aTf] at h; simpa [lD] using h
  | some q =>
    obtain ⟨j,c⟩:=q
    simp only[aTf] at h
    simp only[lD]
    split at h
    · rename_i hg
      rw[hg]
      split at h <;> first | (rename_i hb; cases h; simp [fsl,hb]; done) | cases h
    · cases h
def aQ4 (F:Fx) (n:Nat) (ops:Array Oper) (m:Mem):Nat→List Oper→List (Nat×AV)→Option (List Oper×List (Nat×AV))
  | 0,l,sl=>some (l,sl)
  | _+1,[],_=>none
  | k+1,⟨some d,op,ty,ps,af,gd⟩::rest,sl=>(match lt d n with
    | true=>(match aTf ops sl gd with
      | some true=>(match mD (aB5 sl (Oper.looksAt ops ⟨some d,op,ty,ps,af,gd⟩)) with
        | true=>(match aIv F op (aB5 sl (Oper.looksAt ops ⟨some d,op,ty,ps,af,gd⟩)) m with | some av=>aQ4 F n ops m k rest ((d,av)::sl) | none=>none)
        | false=>none)
      | some false=>aQ4 F n ops m k rest ((d,.s undef)::sl)
      | none=>none)
    | false=>none)
  | _+1,_::_,_=>none
theorem aV {F:Fx} {n:Nat} {ops:Array Oper} {m:Mem} {K:FS→Prop} (hF:aRp P F=true):∀ (k:Nat) {l l':List Oper} {sl sl':List (Nat×AV)} (h:aQ4 F n ops m k l sl=some (l',sl')) (hk:rN P ops n m K l' (fsl sl')),rN P ops n m K l (fsl sl)
  | 0,l,l',sl,sl',h,hk=>by simp only[aQ4,Option.some.injEq,Prod.mk.injEq] at h; obtain ⟨rfl,rfl⟩:=h; exact hk
  | k+1,[],l',sl,sl',h,hk=>by simp [aQ4] at h
  | k+1,⟨none,op,ty,ps,af,gd⟩::rest,l',sl,sl',h,hk=>by simp [aQ4] at h
  | k+1,⟨some d,op,ty,ps,af,gd⟩::rest,l',sl,sl',h,hk=>by
    simp only[aQ4] at h
    split at h
    · rename_i hd
      split at h
      · rename_i hw
        split at h
        · rename_i hb
          split at h
          · rename_i hs; exact bQ _ hd (aL6 hw) (aB3 fun _ hx=>hx) hb (sE hF hs) (aV hF k h hk)
          · cases h
        · cases h
      · rename_i hw; exact aZ hd (aL6 hw) (aV hF k h hk)
      · cases h
    · cases h
end Go.Abs
namespace Go.Abs
open Go Go.RowKit
theorem lf {cs:List AV} (h:cs.all AV.leaf=true):∀ c∈cs,c.leaf=true:=List.all_eq_true.1 h
theorem l1 {cs:List AV} (h:cs.all AV.one=true):∀ c∈cs,c.one=true:=List.all_eq_true.1 h
theorem l2 {xs:List (List AV)} {k:Nat} (h:xs.all (fun x=>Nat.beq x.length k&&x.all AV.leaf)=true):∀ x∈xs,x.length=k∧∀ c∈x,c.leaf=true:=fun x hx=>by
  have:=List.all_eq_true.1 h x hx
  rw[Bool.and_eq_true] at this
  exact⟨Nat.eq_of_beq_eq_true this.1,List.all_eq_true.1 this.2⟩
theorem l3 {ps:List (Nat×AV)} (h:ps.all (fun x=>x.2.cells.all AV.one)=true):∀ x∈ps,∀ c∈x.2.cells,c.one=true:=fun x hx=>List.all_eq_true.1 (List.all_eq_true.1 h x hx)
theorem l4 {mm:AM} {cs:List AV} (h:(match mm with | .box _=>true | .buf _ _=>cs.all AV.leaf)=true):∀ k xs,mm=.buf k xs→∀ c∈cs,c.leaf=true:=fun k xs e=>by
  subst e; exact List.all_eq_true.1 h
end Go.Abs
set_option linter.unusedVariables false
set_option linter.unusedSimpArgs false
namespace Go.Abs
open Go Go.RowKit
variable {P:Program} {w0:World} {p0:Hp}
def qI {α:Type} (sl:List (Nat×α)):List Nat→Option (List (Nat×α))
  | []=>some []
  | t::r=>(match lk sl t with
    | some a=>(match qI sl r with | some l=>some ((t,a)::l) | none=>none)
    | none=>none)
theorem lV {sl:List (Nat×AV)}:∀ {ks:List Nat} {sl':List (Nat×AV)},qI sl ks=some sl'→pJ sl sl'
  | [],sl',h=>by simp only[qI,Option.some.injEq] at h; subst h; trivial
  | t::r,sl',h=>by
    simp only[qI] at h
    split at h
    · rename_i ha
      split at h
      · rename_i hl; cases h; exact⟨ha,lV hl⟩
      · cases h
    · cases h
theorem aF2 {α:Type} {m:List (Nat×α)}:∀ {ks:List Nat} {m':List (Nat×α)},qI m ks=some m'→∀ g a,bL m' g=some a→bL m g=some a
  | [],m',h,g,a,hg=>by simp only[qI,Option.some.injEq] at h; subst h; cases hg
  | t::r,m',h,g,a,hg=>by
    simp only[qI] at h
    split at h
    · rename_i ha
      split at h
      · rename_i hl
        cases h
        rw[dB] at hg
        split at hg
        · rename_i e; subst e; cases hg; rw[← lL]; exact ha
        · exact aF2 hl g a hg
      · cases h
    · cases h
def aJn {α:Type} (m':List (Nat×α)):List (Nat×α)→Bool
  | []=>true
  | (g,_)::r=>(match lk m' g with | some _=>aJn m' r | none=>false)
theorem aGb {α:Type} {m':List (Nat×α)}:∀ {m:List (Nat×α)},aJn m' m=true→∀ g,bL m' g=none→bL m g=none
  | [],_,_,_=>rfl
  | (d,a)::r,h,g,hg=>by
    simp only[aJn] at h
    split at h
    · rename_i hk
      rw[dB]
      split
      · rename_i e; subst e; rw[lL] at hk; rw[hk] at hg; cases hg
      · exact aGb h g hg
    · cases h
theorem aXc {m m':Mem} (h2:qI m (m'.map Prod.fst)=some m') (h3:aJn m' m=true):∀ g,bL m g=bL m' g:=fun g=>by
  cases h:bL m' g with
  | some a=>exact aF2 h2 g a h
  | none=>exact aGb h3 g h
theorem cQ {n:Nat} {sl sl':List (Nat×AV)} {m:Mem} (h:qI sl (sl'.map Prod.fst)=some sl'):Le ⟨n,sl,m⟩ ⟨n,sl',m⟩:=kI (lV h)
theorem cX {n:Nat} {sl sl':List (Nat×AV)} {m:Mem} (ks:List Nat) (h:qI sl ks=some sl'):Le ⟨n,sl,m⟩ ⟨n,sl',m⟩:=kI (lV h)
theorem sX {n:Nat} {sl sl':List (Nat×AV)} {m m':Mem} (h:qI sl (sl'.map Prod.fst)=some sl') (h2:qI m (m'.map Prod.fst)=some m') (h3:aJn m' m=true):Le ⟨n,sl,m⟩ ⟨n,sl',m'⟩:=aXh (lV h) (aXc h2 h3)
section
variable {ops:Array Oper} {Q:Exit→St→Prop} {fuel:Nat} {listed:Array Bool} {n:Nat} {sl sl':List (Nat×AV)} {m m':Mem}
theorem ag (hD:qS P w0 p0 ops Q fuel listed ⟨n,sl',m'⟩) (h:qI sl (sl'.map Prod.fst)=some sl') (h2:qI m (m'.map Prod.fst)=some m') (h3:aJn m' m=true):qS P w0 p0 ops Q fuel listed ⟨n,sl,m⟩:=kQ (sX h h2 h3) hD
theorem cT {K:FS→Prop} (ks:List Nat) (hK:K=fun s=>∃ σ':St,σ'.n=n∧σ'.mem=m∧kP (fun t=>some (s t)) σ'.slots∧mD σ'.slots=true∧Q .normal σ') (hc:qI sl ks=some sl') (hnb:mD sl'=true) (h:Q .normal ⟨n,sl',m⟩):rN P ops n m K [] (fsl sl):=lex_end hK (lV hc) hnb h
theorem rM {K:FS→Prop} {r:Nat} {L:Array Bool} (ks:List Nat) (hK:K=fun s=>∃ σ':St,σ'.n=n∧σ'.mem=m∧kP (fun t=>some (s t)) σ'.slots∧mD σ'.slots=true∧qS P w0 p0 ops Q r L σ') (hc:qI sl ks=some sl') (hnb:mD sl'=true) (h:qS P w0 p0 ops Q r L ⟨n,sl',m⟩):rN P ops n m K [] (fsl sl):=aXg hK (lV hc) hnb h
end
theorem ao {o:Oper} {σ:St} {K:St→Prop} (hg:o.guard=none) (h:fL P w0 p0 #[] [o] σ (aTv K)):AOp P w0 p0 o σ K:=aOs hg h
theorem ixm {α:Type} {enc:α→List AV} {l:List α} {k:Nat} (h:k<l.length):0≤((k:Nat):Int)∧(l.map enc)[((k:Nat):Int).toNat]?=some (enc l[k]):=⟨by omega,by rw[Int.toNat_natCast,List.getElem?_map,List.getElem?_eq_getElem h]; rfl⟩
end Go.Abs
set_option linter.unusedVariables false
namespace Go.Proofs.YtpkanhklapfajaaGreat
open Go Go.Abs
theorem bE:Tryz.prog.follows .mixedOrders=true:=by kernel_rfl
def Tryz.fx:Fx:=[(3,⟨1,false,none,[]⟩),(9,⟨1,false,none,[]⟩),(47,⟨2,true,none,[(0,3),(1,3)]⟩),(42,⟨6,true,none,[(0,3),(1,3),(2,37),(3,38),(4,39),(5,40)]⟩),(27,⟨6,true,none,[(0,3),(1,3),(2,22),(3,23),(4,24),(5,25)]⟩),(64,⟨4,true,none,[(0,47),(2,3),(3,3)]⟩),(68,⟨4,true,none,[(0,3),(1,3),(2,3),(3,3)]⟩),(29,⟨5,true,none,[(0,9),(1,9),(2,3),(3,3),(4,3)]⟩),(38,⟨1,false,some 87,[]⟩),(45,⟨2,true,none,[(0,9),(1,9)]⟩),(73,⟨6,true,none,[(0,3),(1,3),(2,9),(3,9),(4,3),(5,3)]⟩),(33,⟨1,false,some 64,[]⟩),(37,⟨1,false,some 138,[]⟩),(39,⟨1,false,some 147,[]⟩),(101,⟨4,true,none,[(0,9),(1,9),(2,3),(3,3)]⟩),(138,⟨4,true,none,[(0,3),(1,9),(2,3),(3,3)]⟩),(147,⟨4,true,none,[(0,45),(2,47)]⟩),(87,⟨2,true,none,[(0,9),(1,33)]⟩),(40,⟨1,false,some 113,[]⟩),(23,⟨1,false,some 97,[]⟩),(51,⟨1,false,some 68,[]⟩),(49,⟨5,true,none,[(0,45),(2,47),(4,3)]⟩),(22,⟨1,false,some 95,[]⟩),(95,⟨4,true,none,[(0,3),(1,9),(2,3),(3,3)]⟩),(24,⟨1,false,some 101,[]⟩),(113,⟨2,true,none,[(0,9),(1,3)]⟩),(85,⟨2,true,none,[(0,3),(1,3)]⟩),(25,⟨1,false,some 103,[]⟩),(97,⟨2,true,none,[(0,9),(1,51)]⟩),(57,⟨2,true,none,[(0,9),(1,9)]⟩),(103,⟨2,true,none,[(0,9),(1,3)]⟩),(79,⟨1,false,some 47,[]⟩),(255,⟨1,false,none,[]⟩),(83,⟨1,false,some 85,[]⟩),(195,⟨1,false,some 3,[]⟩),(198,⟨1,false,some 33,[]⟩),(234,⟨1,false,some 37,[]⟩),(236,⟨1,false,some 39,[]⟩),(242,⟨1,false,some 38,[]⟩),(161,⟨1,false,some 73,[]⟩),(142,⟨1,false,none,[]⟩),(152,⟨1,false,none,[]⟩),(210,⟨1,false,some 9,[]⟩),(157,⟨1,false,none,[]⟩)]
theorem aA:aRp Tryz.prog Tryz.fx=true:=by kernel_rfl
theorem cA:cells? Tryz.prog 3=some 1:=by kernel_rfl
theorem lE:agg? Tryz.prog 3=some false:=by kernel_rfl
theorem cU:cells? Tryz.prog 9=some 1:=by kernel_rfl
theorem aUd:agg? Tryz.prog 9=some false:=by kernel_rfl
theorem aQr:cells? Tryz.prog 22=some 1:=by kernel_rfl
theorem tU:elem? Tryz.prog 22=some 95:=by kernel_rfl
theorem aBi:elem? Tryz.prog 23=some 97:=by kernel_rfl
theorem aQq:cells? Tryz.prog 24=some 1:=by kernel_rfl
theorem mP:elem? Tryz.prog 24=some 101:=by kernel_rfl
theorem aHq:elem? Tryz.prog 25=some 103:=by kernel_rfl
theorem xK:cells? Tryz.prog 27=some 6:=by kernel_rfl
theorem mO:agg? Tryz.prog 27=some true:=by kernel_rfl
theorem sQ:field? Tryz.prog 27 0=some (0,3):=by kernel_rfl
theorem xC:field? Tryz.prog 27 1=some (1,3):=by kernel_rfl
theorem aDo:field? Tryz.prog 27 2=some (2,22):=by kernel_rfl
theorem aDn:field? Tryz.prog 27 4=some (4,24):=by kernel_rfl
theorem wZ:agg? Tryz.prog 29=some true:=by kernel_rfl
theorem aDm:field? Tryz.prog 29 1=some (1,9):=by kernel_rfl
theorem aDl:field? Tryz.prog 29 4=some (4,3):=by kernel_rfl
theorem aWa:places? Tryz.prog 29=some [(0,1),(1,1),(2,1),(3,1),(4,1)]:=by kernel_rfl
theorem aYk:zeros? Tryz.prog 29=some [.string ⟨#[]⟩,.string ⟨#[]⟩,.int .i64 0,.int .i64 0,.int .i64 0]:=by kernel_rfl
theorem tX:cells? Tryz.prog 33=some 1:=by kernel_rfl
theorem aO1:agg? Tryz.prog 33=some false:=by kernel_rfl
theorem cC:elem? Tryz.prog 33=some 64:=by kernel_rfl
theorem gS:appT? Tryz.prog 33=some (64,4,32):=by kernel_rfl
theorem mS:cells? Tryz.prog 37=some 1:=by kernel_rfl
theorem fD:elem? Tryz.prog 37=some 138:=by kernel_rfl
theorem mB:appT? Tryz.prog 37=some (138,4,40):=by kernel_rfl
theorem mR:cells? Tryz.prog 38=some 1:=by kernel_rfl
theorem fJ:elem? Tryz.prog 38=some 87:=by kernel_rfl
theorem iH:appT? Tryz.prog 38=some (87,2,40):=by kernel_rfl
theorem mQ:cells? Tryz.prog 39=some 1:=by kernel_rfl
theorem fX:elem? Tryz.prog 39=some 147:=by kernel_rfl
theorem lA:appT? Tryz.prog 39=some (147,4,48):=by kernel_rfl
theorem tW:cells? Tryz.prog 40=some 1:=by kernel_rfl
theorem kF:elem? Tryz.prog 40=some 113:=by kernel_rfl
theorem mA:appT? Tryz.prog 40=some (113,2,24):=by kernel_rfl
theorem cG:cells? Tryz.prog 42=some 6:=by kernel_rfl
theorem oH:agg? Tryz.prog 42=some true:=by kernel_rfl
theorem aO9:field? Tryz.prog 42 1=some (1,3):=by kernel_rfl
theorem xB:field? Tryz.prog 42 2=some (2,37):=by kernel_rfl
theorem aDk:field? Tryz.prog 42 3=some (3,38):=by kernel_rfl
theorem xA:field? Tryz.prog 42 4=some (4,39):=by kernel_rfl
theorem aDj:field? Tryz.prog 42 5=some (5,40):=by kernel_rfl
theorem pA:places? Tryz.prog 42=some [(0,1),(1,1),(2,1),(3,1),(4,1),(5,1)]:=by kernel_rfl
theorem bA:zeros? Tryz.prog 42=some [.int .i64 0,.int .i64 0,.slice none 0 0,.slice none 0 0,.slice none 0 0,.slice none 0 0]:=by kernel_rfl
theorem oJ:cells? Tryz.prog 45=some 2:=by kernel_rfl
theorem aG8:eqT? Tryz.prog 45=some (.agg [.str,.str]):=by kernel_rfl
theorem aO8:field? Tryz.prog 45 1=some (1,9):=by kernel_rfl
theorem kD:places? Tryz.prog 45=some [(0,1),(1,1)]:=by kernel_rfl
theorem gN:zeros? Tryz.prog 45=some [.string ⟨#[]⟩,.string ⟨#[]⟩]:=by kernel_rfl
theorem cY:cells? Tryz.prog 47=some 2:=by kernel_rfl
theorem aHa:agg? Tryz.prog 47=some true:=by kernel_rfl
theorem jB:places? Tryz.prog 47=some [(0,1),(1,1)]:=by kernel_rfl
theorem fI:zeros? Tryz.prog 47=some [.int .i64 0,.int .i64 0]:=by kernel_rfl
theorem aHr:cells? Tryz.prog 49=some 5:=by kernel_rfl
theorem aO7:field? Tryz.prog 49 2=some (4,3):=by kernel_rfl
theorem rA:places? Tryz.prog 49=some [(0,2),(2,2),(4,1)]:=by kernel_rfl
theorem dD:zeros? Tryz.prog 49=some [.string ⟨#[]⟩,.string ⟨#[]⟩,.int .i64 0,.int .i64 0,.int .i64 0]:=by kernel_rfl
theorem tT:elem? Tryz.prog 51=some 68:=by kernel_rfl
theorem aV9:places? Tryz.prog 57=some [(0,1),(1,1)]:=by kernel_rfl
theorem aYj:zeros? Tryz.prog 57=some [.string ⟨#[]⟩,.string ⟨#[]⟩]:=by kernel_rfl
theorem bC:cells? Tryz.prog 64=some 4:=by kernel_rfl
theorem eV:agg? Tryz.prog 64=some true:=by kernel_rfl
theorem aYl:eqT? Tryz.prog 64=some (.agg [.agg [.int .i64,.int .i64],.int .i64,.int .i64]):=by kernel_rfl
theorem pZ:field? Tryz.prog 64 0=some (0,47):=by kernel_rfl
theorem aO6:field? Tryz.prog 64 1=some (2,3):=by kernel_rfl
theorem aO5:field? Tryz.prog 64 2=some (3,3):=by kernel_rfl
theorem qZ:places? Tryz.prog 64=some [(0,2),(2,1),(3,1)]:=by kernel_rfl
theorem eE:zeros? Tryz.prog 64=some [.int .i64 0,.int .i64 0,.int .i64 0,.int .i64 0]:=by kernel_rfl
theorem qD:cells? Tryz.prog 68=some 4:=by kernel_rfl
theorem aYn:agg? Tryz.prog 68=some true:=by kernel_rfl
theorem aO4:field? Tryz.prog 68 1=some (1,3):=by kernel_rfl
theorem aDi:field? Tryz.prog 68 2=some (2,3):=by kernel_rfl
theorem aDh:field? Tryz.prog 68 3=some (3,3):=by kernel_rfl
theorem aOz:zeros? Tryz.prog 68=some [.int .i64 0,.int .i64 0,.int .i64 0,.int .i64 0]:=by kernel_rfl
theorem iM:cells? Tryz.prog 73=some 6:=by kernel_rfl
theorem kE:agg? Tryz.prog 73=some true:=by kernel_rfl
theorem kC:eqT? Tryz.prog 73=some (.agg [.int .i64,.int .i64,.str,.str,.int .i64,.int .i64]):=by kernel_rfl
theorem fS:field? Tryz.prog 73 2=some (2,9):=by kernel_rfl
theorem aDg:field? Tryz.prog 73 3=some (3,9):=by kernel_rfl
theorem sP:field? Tryz.prog 73 4=some (4,3):=by kernel_rfl
theorem aDf:field? Tryz.prog 73 5=some (5,3):=by kernel_rfl
theorem gQ:places? Tryz.prog 73=some [(0,1),(1,1),(2,1),(3,1),(4,1),(5,1)]:=by kernel_rfl
theorem gZ:zeros? Tryz.prog 73=some [.int .i64 0,.int .i64 0,.string ⟨#[]⟩,.string ⟨#[]⟩,.int .i64 0,.int .i64 0]:=by kernel_rfl
theorem aYm:agg? Tryz.prog 76=some true:=by kernel_rfl
theorem yE:arr? Tryz.prog 76=some (2,3):=by kernel_rfl
theorem jI:elem? Tryz.prog 79=some 47:=by kernel_rfl
theorem iG:appT? Tryz.prog 79=some (47,2,16):=by kernel_rfl
theorem qB:elem? Tryz.prog 83=some 85:=by kernel_rfl
theorem aY:appT? Tryz.prog 83=some (85,2,16):=by kernel_rfl
theorem oI:cells? Tryz.prog 85=some 2:=by kernel_rfl
theorem aO3:field? Tryz.prog 85 0=some (0,3):=by kernel_rfl
theorem aO2:field? Tryz.prog 85 1=some (1,3):=by kernel_rfl
theorem dP:places? Tryz.prog 85=some [(0,1),(1,1)]:=by kernel_rfl
theorem eL:zeros? Tryz.prog 85=some [.int .i64 0,.int .i64 0]:=by kernel_rfl
theorem eG:cells? Tryz.prog 87=some 2:=by kernel_rfl
theorem aO0:agg? Tryz.prog 87=some true:=by kernel_rfl
theorem aDe:field? Tryz.prog 87 1=some (1,33):=by kernel_rfl
theorem yD:places? Tryz.prog 87=some [(0,1),(1,1)]:=by kernel_rfl
theorem oG:zeros? Tryz.prog 87=some [.string ⟨#[]⟩,.slice none 0 0]:=by kernel_rfl
theorem qC:cells? Tryz.prog 95=some 4:=by kernel_rfl
theorem aDd:field? Tryz.prog 95 0=some (0,3):=by kernel_rfl
theorem aDc:field? Tryz.prog 95 2=some (2,3):=by kernel_rfl
theorem aDb:field? Tryz.prog 95 3=some (3,3):=by kernel_rfl
theorem aOy:zeros? Tryz.prog 95=some [.int .i64 0,.string ⟨#[]⟩,.int .i64 0,.int .i64 0]:=by kernel_rfl
theorem tV:cells? Tryz.prog 97=some 2:=by kernel_rfl
theorem aOx:zeros? Tryz.prog 97=some [.string ⟨#[]⟩,.slice none 0 0]:=by kernel_rfl
theorem iU:cells? Tryz.prog 101=some 4:=by kernel_rfl
theorem aL1:field? Tryz.prog 101 0=some (0,9):=by kernel_rfl
theorem aBh:field? Tryz.prog 101 1=some (1,9):=by kernel_rfl
theorem aL0:field? Tryz.prog 101 2=some (2,3):=by kernel_rfl
theorem aBg:field? Tryz.prog 101 3=some (3,3):=by kernel_rfl
theorem aCj:zeros? Tryz.prog 101=some [.string ⟨#[]⟩,.string ⟨#[]⟩,.int .i64 0,.int .i64 0]:=by kernel_rfl
theorem tY:cells? Tryz.prog 103=some 2:=by kernel_rfl
theorem aJ1:zeros? Tryz.prog 103=some [.string ⟨#[]⟩,.int .i64 0]:=by kernel_rfl
theorem vH:appT? Tryz.prog 104=some (34,1,8):=by kernel_rfl
theorem gR:cells? Tryz.prog 113=some 2:=by kernel_rfl
theorem aWd:agg? Tryz.prog 113=some true:=by kernel_rfl
theorem aSa:places? Tryz.prog 113=some [(0,1),(1,1)]:=by kernel_rfl
theorem yC:zeros? Tryz.prog 113=some [.string ⟨#[]⟩,.int .i64 0]:=by kernel_rfl
theorem dJ:cells? Tryz.prog 138=some 4:=by kernel_rfl
theorem aWc:agg? Tryz.prog 138=some true:=by kernel_rfl
theorem aLz:field? Tryz.prog 138 0=some (0,3):=by kernel_rfl
theorem aLy:field? Tryz.prog 138 2=some (2,3):=by kernel_rfl
theorem aLx:field? Tryz.prog 138 3=some (3,3):=by kernel_rfl
theorem aR9:places? Tryz.prog 138=some [(0,1),(1,1),(2,1),(3,1)]:=by kernel_rfl
theorem qY:zeros? Tryz.prog 138=some [.int .i64 0,.string ⟨#[]⟩,.int .i64 0,.int .i64 0]:=by kernel_rfl
theorem aWg:cells? Tryz.prog 142=some 1:=by kernel_rfl
theorem aV8:zeros? Tryz.prog 142=some [.nilFunc]:=by kernel_rfl
theorem dQ:cells? Tryz.prog 147=some 4:=by kernel_rfl
theorem aWb:agg? Tryz.prog 147=some true:=by kernel_rfl
theorem aLw:field? Tryz.prog 147 0=some (0,45):=by kernel_rfl
theorem uX:field? Tryz.prog 147 1=some (2,47):=by kernel_rfl
theorem aG9:places? Tryz.prog 147=some [(0,2),(2,2)]:=by kernel_rfl
theorem lZ:zeros? Tryz.prog 147=some [.string ⟨#[]⟩,.string ⟨#[]⟩,.int .i64 0,.int .i64 0]:=by kernel_rfl
theorem aWf:elem? Tryz.prog 161=some 73:=by kernel_rfl
theorem aTc:appT? Tryz.prog 161=some (73,6,64):=by kernel_rfl
theorem iF:elem? Tryz.prog 195=some 3:=by kernel_rfl
theorem gB:appT? Tryz.prog 195=some (3,1,8):=by kernel_rfl
theorem aJ5:elem? Tryz.prog 198=some 33:=by kernel_rfl
theorem aHt:appT? Tryz.prog 198=some (33,1,24):=by kernel_rfl
theorem aWe:elem? Tryz.prog 210=some 9:=by kernel_rfl
theorem kR:appT? Tryz.prog 210=some (9,1,16):=by kernel_rfl
theorem aJ4:elem? Tryz.prog 234=some 37:=by kernel_rfl
theorem zX:appT? Tryz.prog 234=some (37,1,24):=by kernel_rfl
theorem aJ3:elem? Tryz.prog 236=some 39:=by kernel_rfl
theorem aHs:appT? Tryz.prog 236=some (39,1,24):=by kernel_rfl
theorem aJ2:elem? Tryz.prog 242=some 38:=by kernel_rfl
theorem aTb:appT? Tryz.prog 242=some (38,1,24):=by kernel_rfl
theorem rX:∀ args w,(callFunc 11 args).run Tryz.prog w=.ok (.enter 11 args) w:=enters_of Tryz.func11 (by kernel_rfl) rfl
theorem rW:∀ args w,(callFunc 12 args).run Tryz.prog w=.ok (.enter 12 args) w:=enters_of Tryz.func12 (by kernel_rfl) rfl
theorem cW:∀ args w,(callFunc 13 args).run Tryz.prog w=.ok (.enter 13 args) w:=enters_of Tryz.func13 (by kernel_rfl) rfl
theorem gA:∀ args w,(callFunc 14 args).run Tryz.prog w=.ok (.enter 14 args) w:=enters_of Tryz.func14 (by kernel_rfl) rfl
theorem cS:∀ args w,(callFunc 15 args).run Tryz.prog w=.ok (.enter 15 args) w:=enters_of Tryz.func15 (by kernel_rfl) rfl
theorem eF:∀ args w,(callFunc 16 args).run Tryz.prog w=.ok (.enter 16 args) w:=enters_of Tryz.func16 (by kernel_rfl) rfl
theorem lQ:∀ args w,(callFunc 20 args).run Tryz.prog w=.ok (.enter 20 args) w:=enters_of Tryz.func20 (by kernel_rfl) rfl
theorem aHp:∀ args w,(callFunc 22 args).run Tryz.prog w=.ok (.enter 22 args) w:=enters_of Tryz.func22 (by kernel_rfl) rfl
theorem aTa:∀ args w,(callFunc 24 args).run Tryz.prog w=.ok (.enter 24 args) w:=enters_of Tryz.func24 (by kernel_rfl) rfl
theorem rV:∀ args w,(callFunc 26 args).run Tryz.prog w=.ok (.enter 26 args) w:=enters_of Tryz.func26 (by kernel_rfl) rfl
theorem aHo:∀ args w,(callFunc 27 args).run Tryz.prog w=.ok (.enter 27 args) w:=enters_of Tryz.func27 (by kernel_rfl) rfl
theorem vG:∀ args w,(callFunc 28 args).run Tryz.prog w=.ok (.enter 28 args) w:=enters_of Tryz.func28 (by kernel_rfl) rfl
theorem vF:∀ args w,(callFunc 29 args).run Tryz.prog w=.ok (.enter 29 args) w:=enters_of Tryz.func29 (by kernel_rfl) rfl
theorem aS9:∀ args w,(callFunc 30 args).run Tryz.prog w=.ok (.enter 30 args) w:=enters_of Tryz.func30 (by kernel_rfl) rfl
theorem lP:∀ args w,(callFunc 31 args).run Tryz.prog w=.ok (.enter 31 args) w:=enters_of Tryz.func31 (by kernel_rfl) rfl
theorem aS8:∀ args w,(callFunc 32 args).run Tryz.prog w=.ok (.enter 32 args) w:=enters_of Tryz.func32 (by kernel_rfl) rfl
theorem vE:∀ args w,(callFunc 33 args).run Tryz.prog w=.ok (.enter 33 args) w:=enters_of Tryz.func33 (by kernel_rfl) rfl
theorem aHn:∀ args w,(callFunc 34 args).run Tryz.prog w=.ok (.enter 34 args) w:=enters_of Tryz.func34 (by kernel_rfl) rfl
theorem aS7:∀ args w,(callFunc 35 args).run Tryz.prog w=.ok (.enter 35 args) w:=enters_of Tryz.func35 (by kernel_rfl) rfl
theorem aS6:∀ args w,(callFunc 36 args).run Tryz.prog w=.ok (.enter 36 args) w:=enters_of Tryz.func36 (by kernel_rfl) rfl
theorem aS5:∀ args w,(callFunc 37 args).run Tryz.prog w=.ok (.enter 37 args) w:=enters_of Tryz.func37 (by kernel_rfl) rfl
theorem aS4:∀ args w,(callFunc 38 args).run Tryz.prog w=.ok (.enter 38 args) w:=enters_of Tryz.func38 (by kernel_rfl) rfl
theorem aS3:∀ args w,(callFunc 39 args).run Tryz.prog w=.ok (.enter 39 args) w:=enters_of Tryz.func39 (by kernel_rfl) rfl
theorem vD:∀ args w,(callFunc 40 args).run Tryz.prog w=.ok (.enter 40 args) w:=enters_of Tryz.func40 (by kernel_rfl) rfl
theorem aS2:∀ args w,(callFunc 41 args).run Tryz.prog w=.ok (.enter 41 args) w:=enters_of Tryz.func41 (by kernel_rfl) rfl
theorem aHm:∀ args w,(callFunc 42 args).run Tryz.prog w=.ok (.enter 42 args) w:=enters_of Tryz.func42 (by kernel_rfl) rfl
theorem aHl:∀ args w,(callFunc 43 args).run Tryz.prog w=.ok (.enter 43 args) w:=enters_of Tryz.func43 (by kernel_rfl) rfl
theorem aHk:∀ args w,(callFunc 44 args).run Tryz.prog w=.ok (.enter 44 args) w:=enters_of Tryz.func44 (by kernel_rfl) rfl
theorem fR:∀ args w,(callFunc 45 args).run Tryz.prog w=.ok (.enter 45 args) w:=enters_of Tryz.func45 (by kernel_rfl) rfl
theorem lO:∀ args w,(callFunc 46 args).run Tryz.prog w=.ok (.enter 46 args) w:=enters_of Tryz.func46 (by kernel_rfl) rfl
theorem aS1:∀ args w,(callFunc 47 args).run Tryz.prog w=.ok (.enter 47 args) w:=enters_of Tryz.func47 (by kernel_rfl) rfl
theorem aHj:∀ args w,(callFunc 50 args).run Tryz.prog w=.ok (.enter 50 args) w:=enters_of Tryz.func50 (by kernel_rfl) rfl
theorem aS0:∀ args w,(callFunc 52 args).run Tryz.prog w=.ok (.enter 52 args) w:=enters_of Tryz.func52 (by kernel_rfl) rfl
theorem aHi:∀ args w,(callFunc 53 args).run Tryz.prog w=.ok (.enter 53 args) w:=enters_of Tryz.func53 (by kernel_rfl) rfl
theorem zW:∀ args w,(callFunc 54 args).run Tryz.prog w=.ok (.enter 54 args) w:=enters_of Tryz.func54 (by kernel_rfl) rfl
theorem aSz:∀ args w,(callFunc 55 args).run Tryz.prog w=.ok (.enter 55 args) w:=enters_of Tryz.func55 (by kernel_rfl) rfl
theorem aSy:∀ args w,(callFunc 59 args).run Tryz.prog w=.ok (.enter 59 args) w:=enters_of Tryz.func59 (by kernel_rfl) rfl
theorem aHh:∀ args w,(callFunc 60 args).run Tryz.prog w=.ok (.enter 60 args) w:=enters_of Tryz.func60 (by kernel_rfl) rfl
theorem pC:∀ args w,(callFunc 61 args).run Tryz.prog w=.ok (.enter 61 args) w:=enters_of Tryz.func61 (by kernel_rfl) rfl
theorem aSx:∀ args w,(callFunc 62 args).run Tryz.prog w=.ok (.enter 62 args) w:=enters_of Tryz.func62 (by kernel_rfl) rfl
theorem vC:∀ args w,(callFunc 63 args).run Tryz.prog w=.ok (.enter 63 args) w:=enters_of Tryz.func63 (by kernel_rfl) rfl
theorem vB:∀ args w,(callFunc 64 args).run Tryz.prog w=.ok (.enter 64 args) w:=enters_of Tryz.func64 (by kernel_rfl) rfl
theorem jP:∀ args w,(callFunc 65 args).run Tryz.prog w=.ok (.enter 65 args) w:=enters_of Tryz.func65 (by kernel_rfl) rfl
theorem zV:∀ args w,(callFunc 66 args).run Tryz.prog w=.ok (.enter 66 args) w:=enters_of Tryz.func66 (by kernel_rfl) rfl
theorem rU:∀ args w,(callFunc 67 args).run Tryz.prog w=.ok (.enter 67 args) w:=enters_of Tryz.func67 (by kernel_rfl) rfl
theorem aSw:∀ args w,(callFunc 68 args).run Tryz.prog w=.ok (.enter 68 args) w:=enters_of Tryz.func68 (by kernel_rfl) rfl
theorem aSv:∀ args w,(callFunc 69 args).run Tryz.prog w=.ok (.enter 69 args) w:=enters_of Tryz.func69 (by kernel_rfl) rfl
theorem aHg:∀ args w,(callFunc 70 args).run Tryz.prog w=.ok (.enter 70 args) w:=enters_of Tryz.func70 (by kernel_rfl) rfl
theorem vA:∀ args w,(callFunc 71 args).run Tryz.prog w=.ok (.enter 71 args) w:=enters_of Tryz.func71 (by kernel_rfl) rfl
theorem aHf:∀ args w,(callFunc 72 args).run Tryz.prog w=.ok (.enter 72 args) w:=enters_of Tryz.func72 (by kernel_rfl) rfl
theorem aSu:∀ args w,(callFunc 73 args).run Tryz.prog w=.ok (.enter 73 args) w:=enters_of Tryz.func73 (by kernel_rfl) rfl
theorem aSt:∀ args w,(callFunc 74 args).run Tryz.prog w=.ok (.enter 74 args) w:=enters_of Tryz.func74 (by kernel_rfl) rfl
theorem aSs:∀ args w,(callFunc 75 args).run Tryz.prog w=.ok (.enter 75 args) w:=enters_of Tryz.func75 (by kernel_rfl) rfl
theorem aSr:∀ args w,(callFunc 76 args).run Tryz.prog w=.ok (.enter 76 args) w:=enters_of Tryz.func76 (by kernel_rfl) rfl
theorem aHe:∀ args w,(callFunc 77 args).run Tryz.prog w=.ok (.enter 77 args) w:=enters_of Tryz.func77 (by kernel_rfl) rfl
theorem pB:∀ args w,(callFunc 78 args).run Tryz.prog w=.ok (.enter 78 args) w:=enters_of Tryz.func78 (by kernel_rfl) rfl
theorem aSq:∀ args w,(callFunc 79 args).run Tryz.prog w=.ok (.enter 79 args) w:=enters_of Tryz.func79 (by kernel_rfl) rfl
theorem aSp:∀ args w,(callFunc 80 args).run Tryz.prog w=.ok (.enter 80 args) w:=enters_of Tryz.func80 (by kernel_rfl) rfl
theorem aSo:∀ args w,(callFunc 81 args).run Tryz.prog w=.ok (.enter 81 args) w:=enters_of Tryz.func81 (by kernel_rfl) rfl
theorem aSn:∀ args w,(callFunc 82 args).run Tryz.prog w=.ok (.enter 82 args) w:=enters_of Tryz.func82 (by kernel_rfl) rfl
theorem aSm:∀ args w,(callFunc 83 args).run Tryz.prog w=.ok (.enter 83 args) w:=enters_of Tryz.func83 (by kernel_rfl) rfl
theorem aSl:∀ args w,(callFunc 84 args).run Tryz.prog w=.ok (.enter 84 args) w:=enters_of Tryz.func84 (by kernel_rfl) rfl
theorem aSk:∀ args w,(callFunc 85 args).run Tryz.prog w=.ok (.enter 85 args) w:=enters_of Tryz.func85 (by kernel_rfl) rfl
theorem uZ:∀ args w,(callFunc 86 args).run Tryz.prog w=.ok (.enter 86 args) w:=enters_of Tryz.func86 (by kernel_rfl) rfl
theorem aSj:∀ args w,(callFunc 87 args).run Tryz.prog w=.ok (.enter 87 args) w:=enters_of Tryz.func87 (by kernel_rfl) rfl
theorem aSi:∀ args w,(callFunc 88 args).run Tryz.prog w=.ok (.enter 88 args) w:=enters_of Tryz.func88 (by kernel_rfl) rfl
theorem aSh:∀ args w,(callFunc 89 args).run Tryz.prog w=.ok (.enter 89 args) w:=enters_of Tryz.func89 (by kernel_rfl) rfl
theorem aSg:∀ args w,(callFunc 90 args).run Tryz.prog w=.ok (.enter 90 args) w:=enters_of Tryz.func90 (by kernel_rfl) rfl
theorem uY:∀ args w,(callFunc 91 args).run Tryz.prog w=.ok (.enter 91 args) w:=enters_of Tryz.func91 (by kernel_rfl) rfl
theorem aSf:∀ args w,(callFunc 92 args).run Tryz.prog w=.ok (.enter 92 args) w:=enters_of Tryz.func92 (by kernel_rfl) rfl
theorem aSe:∀ args w,(callFunc 93 args).run Tryz.prog w=.ok (.enter 93 args) w:=enters_of Tryz.func93 (by kernel_rfl) rfl
theorem aSd:∀ args w,(callFunc 94 args).run Tryz.prog w=.ok (.enter 94 args) w:=enters_of Tryz.func94 (by kernel_rfl) rfl
theorem aHd:∀ args w,(callFunc 95 args).run Tryz.prog w=.ok (.enter 95 args) w:=enters_of Tryz.func95 (by kernel_rfl) rfl
theorem aHc:∀ args w,(callFunc 96 args).run Tryz.prog w=.ok (.enter 96 args) w:=enters_of Tryz.func96 (by kernel_rfl) rfl
theorem aHb:∀ args w,(callFunc 97 args).run Tryz.prog w=.ok (.enter 97 args) w:=enters_of Tryz.func97 (by kernel_rfl) rfl
theorem aSc:∀ args w,(callFunc 98 args).run Tryz.prog w=.ok (.enter 98 args) w:=enters_of Tryz.func98 (by kernel_rfl) rfl
theorem aSb:∀ args w,(callFunc 99 args).run Tryz.prog w=.ok (.enter 99 args) w:=enters_of Tryz.func99 (by kernel_rfl) rfl
theorem aQp:∀ args w,(callFunc 100 args).run Tryz.prog w=.ok (.enter 100 args) w:=enters_of Tryz.func100 (by kernel_rfl) rfl
theorem aQo:∀ args w,(callFunc 102 args).run Tryz.prog w=.ok (.enter 102 args) w:=enters_of Tryz.func102 (by kernel_rfl) rfl
theorem aQn:∀ args w,(callFunc 103 args).run Tryz.prog w=.ok (.enter 103 args) w:=enters_of Tryz.func103 (by kernel_rfl) rfl
theorem aQm:∀ args w,(callFunc 104 args).run Tryz.prog w=.ok (.enter 104 args) w:=enters_of Tryz.func104 (by kernel_rfl) rfl
theorem aQl:∀ args w,(callFunc 106 args).run Tryz.prog w=.ok (.enter 106 args) w:=enters_of Tryz.func106 (by kernel_rfl) rfl
theorem lS:∀ args w,(callFunc 107 args).run Tryz.prog w=.ok (.enter 107 args) w:=enters_of Tryz.func107 (by kernel_rfl) rfl
theorem kK:∀ args w,(callFunc 108 args).run Tryz.prog w=.ok (.enter 108 args) w:=enters_of Tryz.func108 (by kernel_rfl) rfl
theorem jH:∀ args w,(callFunc 109 args).run Tryz.prog w=.ok (.enter 109 args) w:=enters_of Tryz.func109 (by kernel_rfl) rfl
theorem aQk:∀ args w,(callFunc 110 args).run Tryz.prog w=.ok (.enter 110 args) w:=enters_of Tryz.func110 (by kernel_rfl) rfl
theorem aQj:∀ args w,(callFunc 111 args).run Tryz.prog w=.ok (.enter 111 args) w:=enters_of Tryz.func111 (by kernel_rfl) rfl
theorem aQi:∀ args w,(callFunc 112 args).run Tryz.prog w=.ok (.enter 112 args) w:=enters_of Tryz.func112 (by kernel_rfl) rfl
theorem aQh:∀ args w,(callFunc 113 args).run Tryz.prog w=.ok (.enter 113 args) w:=enters_of Tryz.func113 (by kernel_rfl) rfl
theorem aQg:∀ args w,(callFunc 114 args).run Tryz.prog w=.ok (.enter 114 args) w:=enters_of Tryz.func114 (by kernel_rfl) rfl
theorem aQf:∀ args w,(callFunc 115 args).run Tryz.prog w=.ok (.enter 115 args) w:=enters_of Tryz.func115 (by kernel_rfl) rfl
theorem lR:∀ args w,(callFunc 116 args).run Tryz.prog w=.ok (.enter 116 args) w:=enters_of Tryz.func116 (by kernel_rfl) rfl
theorem iR:∀ args w,(callFunc 117 args).run Tryz.prog w=.ok (.enter 117 args) w:=enters_of Tryz.func117 (by kernel_rfl) rfl
theorem qA:∀ args w,(callFunc 118 args).run Tryz.prog w=.ok (.enter 118 args) w:=enters_of Tryz.func118 (by kernel_rfl) rfl
theorem nN:∀ args w,(callFunc 119 args).run Tryz.prog w=.ok (.enter 119 args) w:=enters_of Tryz.func119 (by kernel_rfl) rfl
theorem aD3:∀ args w,(callFunc 120 args).run Tryz.prog w=.ok (.enter 120 args) w:=enters_of Tryz.func120 (by kernel_rfl) rfl
theorem aQe:∀ args w,(callFunc 121 args).run Tryz.prog w=.ok (.enter 121 args) w:=enters_of Tryz.func121 (by kernel_rfl) rfl
theorem aQd:∀ args w,(callFunc 122 args).run Tryz.prog w=.ok (.enter 122 args) w:=enters_of Tryz.func122 (by kernel_rfl) rfl
theorem aQc:∀ args w,(callFunc 123 args).run Tryz.prog w=.ok (.enter 123 args) w:=enters_of Tryz.func123 (by kernel_rfl) rfl
theorem aQb:∀ args w,(callFunc 124 args).run Tryz.prog w=.ok (.enter 124 args) w:=enters_of Tryz.func124 (by kernel_rfl) rfl
theorem nM:∀ args w,(callFunc 125 args).run Tryz.prog w=.ok (.enter 125 args) w:=enters_of Tryz.func125 (by kernel_rfl) rfl
theorem aQa:∀ args w,(callFunc 126 args).run Tryz.prog w=.ok (.enter 126 args) w:=enters_of Tryz.func126 (by kernel_rfl) rfl
theorem xJ:∀ args w,(callFunc 127 args).run Tryz.prog w=.ok (.enter 127 args) w:=enters_of Tryz.func127 (by kernel_rfl) rfl
theorem aP9:∀ args w,(callFunc 128 args).run Tryz.prog w=.ok (.enter 128 args) w:=enters_of Tryz.func128 (by kernel_rfl) rfl
theorem aP8:∀ args w,(callFunc 129 args).run Tryz.prog w=.ok (.enter 129 args) w:=enters_of Tryz.func129 (by kernel_rfl) rfl
theorem aD2:∀ args w,(callFunc 130 args).run Tryz.prog w=.ok (.enter 130 args) w:=enters_of Tryz.func130 (by kernel_rfl) rfl
theorem aP7:∀ args w,(callFunc 131 args).run Tryz.prog w=.ok (.enter 131 args) w:=enters_of Tryz.func131 (by kernel_rfl) rfl
theorem aD1:∀ args w,(callFunc 132 args).run Tryz.prog w=.ok (.enter 132 args) w:=enters_of Tryz.func132 (by kernel_rfl) rfl
theorem aD0:∀ args w,(callFunc 133 args).run Tryz.prog w=.ok (.enter 133 args) w:=enters_of Tryz.func133 (by kernel_rfl) rfl
theorem aP6:∀ args w,(callFunc 134 args).run Tryz.prog w=.ok (.enter 134 args) w:=enters_of Tryz.func134 (by kernel_rfl) rfl
theorem xI:∀ args w,(callFunc 135 args).run Tryz.prog w=.ok (.enter 135 args) w:=enters_of Tryz.func135 (by kernel_rfl) rfl
theorem aDz:∀ args w,(callFunc 136 args).run Tryz.prog w=.ok (.enter 136 args) w:=enters_of Tryz.func136 (by kernel_rfl) rfl
theorem xH:∀ args w,(callFunc 137 args).run Tryz.prog w=.ok (.enter 137 args) w:=enters_of Tryz.func137 (by kernel_rfl) rfl
theorem nK:∀ args w,(callFunc 138 args).run Tryz.prog w=.ok (.enter 138 args) w:=enters_of Tryz.func138 (by kernel_rfl) rfl
theorem aDy:∀ args w,(callFunc 139 args).run Tryz.prog w=.ok (.enter 139 args) w:=enters_of Tryz.func139 (by kernel_rfl) rfl
theorem aDx:∀ args w,(callFunc 140 args).run Tryz.prog w=.ok (.enter 140 args) w:=enters_of Tryz.func140 (by kernel_rfl) rfl
theorem sS:∀ args w,(callFunc 141 args).run Tryz.prog w=.ok (.enter 141 args) w:=enters_of Tryz.func141 (by kernel_rfl) rfl
theorem aDw:∀ args w,(callFunc 142 args).run Tryz.prog w=.ok (.enter 142 args) w:=enters_of Tryz.func142 (by kernel_rfl) rfl
theorem aP5:∀ args w,(callFunc 143 args).run Tryz.prog w=.ok (.enter 143 args) w:=enters_of Tryz.func143 (by kernel_rfl) rfl
theorem aP4:∀ args w,(callFunc 144 args).run Tryz.prog w=.ok (.enter 144 args) w:=enters_of Tryz.func144 (by kernel_rfl) rfl
theorem xG:∀ args w,(callFunc 145 args).run Tryz.prog w=.ok (.enter 145 args) w:=enters_of Tryz.func145 (by kernel_rfl) rfl
theorem aDv:∀ args w,(callFunc 146 args).run Tryz.prog w=.ok (.enter 146 args) w:=enters_of Tryz.func146 (by kernel_rfl) rfl
theorem aP3:∀ args w,(callFunc 147 args).run Tryz.prog w=.ok (.enter 147 args) w:=enters_of Tryz.func147 (by kernel_rfl) rfl
theorem aP2:∀ args w,(callFunc 148 args).run Tryz.prog w=.ok (.enter 148 args) w:=enters_of Tryz.func148 (by kernel_rfl) rfl
theorem aP1:∀ args w,(callFunc 149 args).run Tryz.prog w=.ok (.enter 149 args) w:=enters_of Tryz.func149 (by kernel_rfl) rfl
theorem xF:∀ args w,(callFunc 150 args).run Tryz.prog w=.ok (.enter 150 args) w:=enters_of Tryz.func150 (by kernel_rfl) rfl
theorem aP0:∀ args w,(callFunc 151 args).run Tryz.prog w=.ok (.enter 151 args) w:=enters_of Tryz.func151 (by kernel_rfl) rfl
theorem xE:∀ args w,(callFunc 152 args).run Tryz.prog w=.ok (.enter 152 args) w:=enters_of Tryz.func152 (by kernel_rfl) rfl
theorem aPz:∀ args w,(callFunc 153 args).run Tryz.prog w=.ok (.enter 153 args) w:=enters_of Tryz.func153 (by kernel_rfl) rfl
theorem aPy:∀ args w,(callFunc 154 args).run Tryz.prog w=.ok (.enter 154 args) w:=enters_of Tryz.func154 (by kernel_rfl) rfl
theorem aDu:∀ args w,(callFunc 155 args).run Tryz.prog w=.ok (.enter 155 args) w:=enters_of Tryz.func155 (by kernel_rfl) rfl
theorem aDt:∀ args w,(callFunc 156 args).run Tryz.prog w=.ok (.enter 156 args) w:=enters_of Tryz.func156 (by kernel_rfl) rfl
theorem aPx:∀ args w,(callFunc 157 args).run Tryz.prog w=.ok (.enter 157 args) w:=enters_of Tryz.func157 (by kernel_rfl) rfl
theorem aPw:∀ args w,(callFunc 158 args).run Tryz.prog w=.ok (.enter 158 args) w:=enters_of Tryz.func158 (by kernel_rfl) rfl
theorem aPv:∀ args w,(callFunc 159 args).run Tryz.prog w=.ok (.enter 159 args) w:=enters_of Tryz.func159 (by kernel_rfl) rfl
theorem aPu:∀ args w,(callFunc 160 args).run Tryz.prog w=.ok (.enter 160 args) w:=enters_of Tryz.func160 (by kernel_rfl) rfl
theorem aPt:∀ args w,(callFunc 161 args).run Tryz.prog w=.ok (.enter 161 args) w:=enters_of Tryz.func161 (by kernel_rfl) rfl
theorem aPs:∀ args w,(callFunc 162 args).run Tryz.prog w=.ok (.enter 162 args) w:=enters_of Tryz.func162 (by kernel_rfl) rfl
theorem aPr:∀ args w,(callFunc 163 args).run Tryz.prog w=.ok (.enter 163 args) w:=enters_of Tryz.func163 (by kernel_rfl) rfl
theorem aPq:∀ args w,(callFunc 164 args).run Tryz.prog w=.ok (.enter 164 args) w:=enters_of Tryz.func164 (by kernel_rfl) rfl
theorem aPp:∀ args w,(callFunc 165 args).run Tryz.prog w=.ok (.enter 165 args) w:=enters_of Tryz.func165 (by kernel_rfl) rfl
theorem aPo:∀ args w,(callFunc 166 args).run Tryz.prog w=.ok (.enter 166 args) w:=enters_of Tryz.func166 (by kernel_rfl) rfl
theorem aDs:∀ args w,(callFunc 169 args).run Tryz.prog w=.ok (.enter 169 args) w:=enters_of Tryz.func169 (by kernel_rfl) rfl
theorem aDr:∀ args w,(callFunc 170 args).run Tryz.prog w=.ok (.enter 170 args) w:=enters_of Tryz.func170 (by kernel_rfl) rfl
theorem sR:∀ args w,(callFunc 171 args).run Tryz.prog w=.ok (.enter 171 args) w:=enters_of Tryz.func171 (by kernel_rfl) rfl
theorem aDq:∀ args w,(callFunc 172 args).run Tryz.prog w=.ok (.enter 172 args) w:=enters_of Tryz.func172 (by kernel_rfl) rfl
theorem aPn:∀ args w,(callFunc 173 args).run Tryz.prog w=.ok (.enter 173 args) w:=enters_of Tryz.func173 (by kernel_rfl) rfl
theorem aPm:∀ args w,(callFunc 174 args).run Tryz.prog w=.ok (.enter 174 args) w:=enters_of Tryz.func174 (by kernel_rfl) rfl
theorem aPl:∀ args w,(callFunc 175 args).run Tryz.prog w=.ok (.enter 175 args) w:=enters_of Tryz.func175 (by kernel_rfl) rfl
theorem aPk:∀ args w,(callFunc 176 args).run Tryz.prog w=.ok (.enter 176 args) w:=enters_of Tryz.func176 (by kernel_rfl) rfl
theorem aPj:∀ args w,(callFunc 177 args).run Tryz.prog w=.ok (.enter 177 args) w:=enters_of Tryz.func177 (by kernel_rfl) rfl
theorem aPi:∀ args w,(callFunc 178 args).run Tryz.prog w=.ok (.enter 178 args) w:=enters_of Tryz.func178 (by kernel_rfl) rfl
theorem aPh:∀ args w,(callFunc 179 args).run Tryz.prog w=.ok (.enter 179 args) w:=enters_of Tryz.func179 (by kernel_rfl) rfl
theorem aPg:∀ args w,(callFunc 180 args).run Tryz.prog w=.ok (.enter 180 args) w:=enters_of Tryz.func180 (by kernel_rfl) rfl
theorem aPf:∀ args w,(callFunc 181 args).run Tryz.prog w=.ok (.enter 181 args) w:=enters_of Tryz.func181 (by kernel_rfl) rfl
theorem aPe:∀ args w,(callFunc 182 args).run Tryz.prog w=.ok (.enter 182 args) w:=enters_of Tryz.func182 (by kernel_rfl) rfl
theorem aPd:∀ args w,(callFunc 183 args).run Tryz.prog w=.ok (.enter 183 args) w:=enters_of Tryz.func183 (by kernel_rfl) rfl
theorem aPc:∀ args w,(callFunc 184 args).run Tryz.prog w=.ok (.enter 184 args) w:=enters_of Tryz.func184 (by kernel_rfl) rfl
theorem aPb:∀ args w,(callFunc 187 args).run Tryz.prog w=.ok (.enter 187 args) w:=enters_of Tryz.func187 (by kernel_rfl) rfl
theorem aPa:∀ args w,(callFunc 198 args).run Tryz.prog w=.ok (.enter 198 args) w:=enters_of Tryz.func198 (by kernel_rfl) rfl
theorem aDp:∀ args w,(callFunc 199 args).run Tryz.prog w=.ok (.enter 199 args) w:=enters_of Tryz.func199 (by kernel_rfl) rfl
theorem xD:∀ args w,(callFunc 206 args).run Tryz.prog w=.ok (.enter 206 args) w:=enters_of Tryz.func206 (by kernel_rfl) rfl
end Go.Proofs.YtpkanhklapfajaaGreat
set_option linter.unusedVariables false
namespace Go.Proofs.YtpkanhklapfajaaGreat
open Go Go.Abs
end Go.Proofs.YtpkanhklapfajaaGreat
set_option linter.unusedVariables false
namespace Go.Abs
open Go Go.RowKit
variable {P:Program} {α:Type} {enc:α→List AV}
theorem aB2 {l:List α} {k:Nat} (h:k<l.length):(l.map enc)[((k:Nat):Int).toNat]?=some (enc l[k]):=by
  rw[Int.toNat_natCast,List.getElem?_map,List.getElem?_eq_getElem h]; rfl
theorem hY {l:List α} {z:Int} {k:Nat} (hz:z=(k:Nat)) (h:k<l.length):0≤z∧(l.map enc)[z.toNat]?=some (enc l[k]):=by
  subst hz; exact⟨by omega,aB2 h⟩
theorem gV (ok:Nat→Bool) (c:AV) (cs:List AV):cleanL ok (c::cs)=(c.clean ok&&cleanL ok cs):=by simp only[cleanL]
theorem cI {mem:Mem} {g k n:Nat} {xs:List (List AV)} (hl:bL mem g=some (.buf k xs)) (hn:n=xs.length):(AV.own g k 0 n).conv mem=.sl k xs:=by
  subst hn
  simp [AV.conv,hl]
theorem aF4 {l:List α} {c k i:Nat} (hi:i=k) (h:k<l.length) (f:Nat):((AM.buf c (l.map enc)).at c i f)=(enc l[k]).drop f:=by
  subst hi
  simp only[AM.at,if_true]
  rw[List.getElem?_map,List.getElem?_eq_getElem h]; rfl
theorem qK {l:List α} {c k i:Nat} (hi:i=k) (h:k<l.length) (hc:(enc l[k]).length=c):Nat.ble c ((AM.buf c (l.map enc)).at c i 0).length=true:=by
  rw[aF4 hi h,List.drop_zero,hc]; exact Nat.ble_eq_true_of_le (Nat.le_refl _)
theorem nV {l:List α} {c k i:Nat} (hi:i=k) (h:k<l.length) (hc:(enc l[k]).length=c):((AM.buf c (l.map enc)).at c i 0).take c=enc l[k]:=by
  rw[aF4 hi h,List.drop_zero,← hc,List.take_length]
theorem jD {l:List α} {c k i:Nat} (hi:i=k) (h:k<l.length) (f:Nat):((AM.buf c (l.map enc)).at c i f)[0]?=(enc l[k])[f]?:=by
  rw[aF4 hi h,List.getElem?_drop]; simp
theorem iS {l:List α} {c k f i:Nat} {v:α} {rs:List AV} (hi:i=k) (h:k<l.length) (hs:splice (enc l[k]) f rs=enc v) (hf:f+rs.length≤c):(AM.buf c (l.map enc)).store c i f rs=some (.buf c ((l.set k v).map enc)):=by
  subst hi
  have h1:(l.map enc)[i]?=some (enc l[i]):=by rw[List.getElem?_map,List.getElem?_eq_getElem h]; rfl
  simp only[AM.store,h1]
  rw[if_pos (by simpa using hf),hs]
  simp only[List.map_set]
theorem aOc {f k:Nat} {args:List AV} {R:List (List AV)→Prop} (h:DenO P f args k R):Den P f args (fun r=>∃ ys,R ys∧r=.sl k ys):=by
  intro A w vals hA hr
  refine(h A w vals hA hr).mono ?_
  rintro e w' ⟨v,ys,x,rfl,hR,hx,hE,hm,hv⟩
  have hxA:∀ b,x=some b→¬ A b:=fun b hb hAb=>by have h1:=hA b hAb; have h2:=hx b hb; omega
  have hmem:=aC3 hxA hm
  have hc:=RelV.conv hmem hv
  refine⟨v,_,rfl,⟨ys,hR,rfl⟩,⟨hE.os,hE.tape,hE.output,hE.size,hE.A,fun b hb=>?_,hE.others,fun g x hx=>by cases hx⟩,?_⟩
  · exact⟨⟨(hE.stab b hb).1.1,(fun _ h=>by cases h),(hE.stab b hb).1.2.2⟩,(hE.stab b hb).2⟩
  · rw[cI (g:=E0) rfl rfl] at hc
    exact hc
theorem dA {f k:Nat} {args:List AV} {ys:List (List AV)} (h:DenO P f args k (·=ys)):Den P f args (·=.sl k ys) :=
  (aOc h).mono (by rintro _ ⟨_,rfl,rfl⟩; rfl)
theorem aRu {a b:List α} {k:Nat} [DecidableEq α] (h1:k<a.length) (h2:k<b.length) (h:¬ a[k]=b[k]):decide (a=b)=false:=by
  rw[decide_eq_false_iff_not]; intro e; subst e; exact h rfl
theorem aVi {a b:List α} [DecidableEq α] (h:¬ a.length=b.length):decide (a=b)=false:=by
  rw[decide_eq_false_iff_not]; intro e; subst e; exact h rfl
theorem aRt {a b:List α} {k:Nat} (h1:k<a.length) (h2:k<b.length) (h:a.take k=b.take k) (he:a[k]=b[k]):a.take (k+1)=b.take (k+1):=by
  rw[List.take_add_one,List.take_add_one,h,List.getElem?_eq_getElem h1,List.getElem?_eq_getElem h2,he]
theorem aVj {a b:List α} {k:Nat} [DecidableEq α] (h1:a.length≤k) (h2:b.length≤k) (h:a.take k=b.take k):decide (a=b)=true:=by
  rw[decide_eq_true_iff]
  rwa [List.take_of_length_le h1,List.take_of_length_le h2] at h
def qH (p:α→Bool) (l:List α):Int:=match l.findIdx? p with | some i=>(i:Nat) | none=>-1
theorem oT {p:α→Bool} {l:List α} {k:Nat} (hk:k<l.length) (h:∀ (j:Nat) (hj:j<l.length),j<k→p l[j]=false) (hp:p l[k]=true):qH p l=(k:Nat):=by
  have:l.findIdx? p=some k:=by
    rw[List.findIdx?_eq_some_iff_getElem]
    exact⟨hk,hp,fun j hj=>by rw[h j (by omega) hj]; simp⟩
  simp [qH,this]
theorem qU {p:α→Bool} {l:List α} (h:∀ (j:Nat) (hj:j<l.length),p l[j]=false):qH p l=-1:=by
  have:l.findIdx? p=none:=by
    rw[List.findIdx?_eq_none_iff]
    intro x hx
    obtain ⟨j,hj,rfl⟩:=List.getElem_of_mem hx
    exact h j hj
  simp [qH,this]
theorem eP (p:α→Bool) (l:List α):(qH p l=-1∧∀ x∈l,p x=false)∨(∃ k:Nat,∃ h:k<l.length,qH p l=(k:Nat)∧p l[k]=true∧∀ (j:Nat) (hj:j<l.length),j<k→p l[j]=false):=by
  unfold qH
  cases h:l.findIdx? p with
  | none =>
    left
    rw[List.findIdx?_eq_none_iff] at h
    exact⟨rfl,h⟩
  | some k =>
    right
    rw[List.findIdx?_eq_some_iff_getElem] at h
    obtain ⟨h1,h2,h3⟩:=h
    exact⟨k,h1,rfl,h2,fun j hj hk=>by simpa using h3 j hk⟩
theorem pW (p:α→Bool) (l:List α):decide (0≤qH p l)=l.any p:=by
  rcases eP p l with ⟨h1,h2⟩ | ⟨k,h,h1,h2,_⟩
  · rw[h1,Bool.eq_iff_iff]
    simp only[decide_eq_true_eq,List.any_eq_true]
    constructor
    · intro h; omega
    · rintro ⟨x,hx,hp⟩; rw[h2 x hx] at hp; cases hp
  · rw[h1,Bool.eq_iff_iff]
    simp only[decide_eq_true_eq,List.any_eq_true]
    exact⟨fun _=>⟨_,List.getElem_mem h,h2⟩,fun _=>by omega⟩
theorem jL {β:Type} (l:List α) (f:β→α→β) (i:β) (k:Nat) (h:k<l.length):(l.take (k+1)).foldl f i=f ((l.take k).foldl f i) l[k]:=by
  rw[List.take_add_one,List.getElem?_eq_getElem h,List.foldl_append]; rfl
theorem vT {β:Type} (l:List α) (f:β→α→β) (i:β) (k:Nat) (h:l.length≤k):(l.take k).foldl f i=l.foldl f i:=by
  rw[List.take_of_length_le h]
theorem rD {β:Type} (l:List α) (f:α→β) (k:Nat) (h:k<l.length):(l.take (k+1)).map f=(l.take k).map f++[f l[k]]:=by
  rw[List.take_add_one,List.getElem?_eq_getElem h,List.map_append]; rfl
theorem tC (l:List α) (k:Nat) (h:k<l.length):(l.take (k+1)).length=(l.take k).length+1:=by simp; omega
theorem lG (l:List α) (p:α→Bool) (k:Nat) (h:k<l.length):(l.take (k+1)).filter p=(l.take k).filter p++(if p l[k]=true then [l[k]] else []):=by
  rw[List.take_add_one,List.getElem?_eq_getElem h,List.filter_append]
  simp only[Option.toList]
  split
  · rename_i hp; simp [hp]
  · rename_i hp; simp [hp]
theorem jA {β:Type} (l:List (List β)) (k:Nat) (h:k<l.length):(l.take (k+1)).flatten=(l.take k).flatten++l[k]:=by
  rw[List.take_add_one,List.getElem?_eq_getElem h,List.flatten_append]; simp
theorem sM {β:Type} (l:List (List β)) (k:Nat):(l.take k).flatten.length≤l.flatten.length:=by
  have:l.flatten=(l.take k).flatten++(l.drop k).flatten:=by rw[← List.flatten_append,List.take_append_drop]
  rw[this,List.length_append]; omega
def jX (q:α→Bool) (l:List α) (j:Nat):List α:=(l.take j).filter q++l.drop ((l.take j).filter q).length
theorem iX (q:α→Bool) (l:List α) (j:Nat):((l.take j).filter q).length≤j:=Nat.le_trans (List.length_filter_le _ _) (by simp; omega)
theorem iJ (q:α→Bool) (l:List α) (j:Nat):((l.take j).filter q).length≤l.length:=Nat.le_trans (List.length_filter_le _ _) (by simp; omega)
theorem eQ (q:α→Bool) (l:List α) (j:Nat):(jX q l j).length=l.length:=by
  have:=iJ q l j
  simp only[jX,List.length_append,List.length_drop]; omega
theorem qV (q:α→Bool) (l:List α) (j i:Nat) (hi:i<l.length) (h:((l.take j).filter q).length≤i):(jX q l j)[i]'(by rw[eQ]; exact hi)=l[i]:=by
  simp only[jX]
  rw[List.getElem_append_right h]
  simp only[List.getElem_drop]
  congr 1
  omega
theorem kY (q:α→Bool) (l:List α) (j:Nat) (hj:j<l.length) (hq:q l[j]=true):(jX q l j).set ((l.take j).filter q).length l[j]=jX q l (j+1):=by
  have h1:=iX q l j
  have h2:(l.take (j+1)).filter q=(l.take j).filter q++[l[j]]:=by rw[lG l q j hj,if_pos hq]
  simp only[jX,h2,List.length_append,List.length_cons,List.length_nil]
  rw[List.set_append_right _ _ (Nat.le_refl _),Nat.sub_self,List.append_assoc]
  congr 1
  rw[List.drop_eq_getElem_cons (show ((l.take j).filter q).length<l.length by omega),List.set_cons_zero]; rfl
theorem kZ (q:α→Bool) (l:List α) (j:Nat) (hj:j<l.length) (hq:¬ q l[j]=true):jX q l j=jX q l (j+1):=by
  have h2:(l.take (j+1)).filter q=(l.take j).filter q:=by rw[lG l q j hj,if_neg hq]; simp
  simp only[jX,h2]
theorem lX (q:α→Bool) (l:List α) (k:Nat) (hk:k<l.length) (h:∀ (j:Nat) (hj:j<l.length),j<k→q l[j]=true) (hq:q l[k]=false):jX q l (k+1)=l∧((l.take (k+1)).filter q).length=k:=by
  have h1:(l.take k).filter q=l.take k:=by
    rw[List.filter_eq_self]
    intro x hx
    obtain ⟨j,hj,rfl⟩:=List.getElem_of_mem hx
    simp at hj
    rw[List.getElem_take]
    exact h j (by omega) (by omega)
  have h2:(l.take (k+1)).filter q=l.take k:=by rw[lG l q k hk,if_neg (by rw[hq]; simp),h1]; simp
  refine⟨?_,by rw[h2]; simp; omega⟩
  simp only[jX,h2,List.length_take]
  rw[Nat.min_eq_left (by omega),List.take_append_drop]
theorem oX (q:α→Bool) (l:List α) (j:Nat) (h:l.length≤j):(jX q l j).take (l.filter q).length=l.filter q:=by
  simp only[jX,List.take_of_length_le h]
  rw[List.take_left]
theorem nD (q:α→Bool) (l:List α) (j:Nat) (hj:j<l.length) (hq:q l[j]=true):(((l.take j).filter q).length:Int)+1=(((l.take (j+1)).filter q).length:Nat):=by
  rw[lG l q j hj,if_pos hq]; simp
theorem nE (q:α→Bool) (l:List α) (j:Nat) (hj:j<l.length) (hq:¬ q l[j]=true):(l.take j).filter q=(l.take (j+1)).filter q:=by
  rw[lG l q j hj,if_neg hq]; simp
theorem gU (p:α→Bool) (l:List α) (h:∀ x∈l,p x=false):l.filter (fun x=>!p x)=l:=by
  rw[List.filter_eq_self]; intro x hx; simp [h x hx]
theorem aU6 {β:Type} {a b:Nat} {x y:β} {m:List (Nat×β)} {g:Nat} (h:a≠b):bL ((a,x)::(b,y)::m) g=bL ((b,y)::(a,x)::m) g:=by
  simp only[bL]
  by_cases h1:a=g
  · have h2:¬ b=g:=fun e=>h (h1.trans e.symm)
    rw[if_pos h1,if_neg h2,if_pos h1]
  · rw[if_neg h1,if_neg h1]
theorem pY {n:Nat} {sl:List (Nat×AV)} {m:Mem} {d:Nat} {x:Operand} {kd:IntKind} {z:Int} (hx:ev sl x=some (.s (.int kd z))) (hz:0≤z):bnd ⟨n,sl,m⟩ d (some x)=some z.toNat:=by
  simp only[bnd,cR hx]; rw[if_pos hz]
theorem dG {n:Nat} {sl:List (Nat×AV)} {m:Mem} {l:List α} {g k off c j:Nat} (hl:bL m g=some (.buf k (l.map enc))) (ho:off=0) (hc:c=j) (hj:j≤l.length):eK ⟨n,sl,m⟩ k (.own g k off c)=some ((l.take j).map enc):=by
  subst ho; subst hc
  simp only[eK,hl]
  rw[if_pos (by simpa using hj),List.drop_zero,List.map_take]
theorem cJ {n:Nat} {sl sl':List (Nat×AV)} {m m':Mem} (h:pJ sl sl') (hm:m=m'):Le ⟨n,sl,m⟩ ⟨n,sl',m'⟩:=hm ▸ kI h
end Go.Abs
set_option linter.unusedVariables false
set_option linter.unusedSimpArgs false
namespace Go.Abs
open Go
def aBn (l:List ByteArray):List (List AV):=l.map fun s=>[.s (.string s)]
theorem pE {l:List ByteArray} {k:Nat} (h:k<l.length):(aBn l)[((k:Nat):Int).toNat]?=some [.s (.string l[k])]:=by
  rw[Int.toNat_natCast]; simp [aBn,h]
theorem jU (l:List ByteArray):(aBn l).length=l.length:=by simp [aBn]
abbrev TS (s:ByteArray):Prop:=s.size≤9223372036854775807
abbrev TL (l:List ByteArray):Prop:=l.length≤9223372036854775807∧∀ s∈l,TS s
def dO (a b:List UInt8):Int:=match a,b with
  | [],[]=>0
  | [],_::_=>-1
  | _::_,[]=>1
  | x::a,y::b=>if x<y then -1 else if x > y then 1 else dO a b
theorem uS (a b:ByteArray) (k:Nat) (ha:k<a.size) (hb:k<b.size) :
    dO (a.data.toList.drop k) (b.data.toList.drop k)=if a[k]<b[k] then -1 else if a[k] > b[k] then 1 else dO (a.data.toList.drop (k+1)) (b.data.toList.drop (k+1)):=by
  rw[List.drop_eq_getElem_cons (l:=a.data.toList) (by simpa using ha),List.drop_eq_getElem_cons (l:=b.data.toList) (by simpa using hb)]
  rfl
theorem nH (a b:ByteArray) (k:Nat) (h1:k≤a.size) (h2:k≤b.size) (h:a.size≤k∨b.size≤k) :
    dO (a.data.toList.drop k) (b.data.toList.drop k)=if a.size<b.size then -1 else if b.size<a.size then 1 else 0:=by
  have la:(a.data.toList.drop k).length=a.size - k:=by simp
  have lb:(b.data.toList.drop k).length=b.size - k:=by simp
  generalize a.data.toList.drop k=x at *
  generalize b.data.toList.drop k=y at *
  cases x <;> cases y <;> simp_all[dO] <;> (repeat' split) <;> first | rfl | omega
def eR (a b:ByteArray):Int:=dO a.data.toList b.data.toList
def fB (c:UInt8):Bool:=(decide (97≤c.toNat)&&decide (c.toNat≤122))||(decide (48≤c.toNat)&&decide (c.toNat≤57))
def cF (s:ByteArray):Bool:=decide (1≤s.size)&&decide (s.size≤12)&&s.data.toList.all fB
theorem oF (p:UInt8→Bool) (s:ByteArray) (k:Nat) (h:k<s.size):(s.data.toList.drop k).all p=(p s[k]&&(s.data.toList.drop (k+1)).all p):=by
  rw[List.drop_eq_getElem_cons (l:=s.data.toList) (by simpa using h)]; rfl
theorem aLv (p:UInt8→Bool) (s:ByteArray) (k:Nat) (h:s.size≤k):(s.data.toList.drop k).all p=true:=by
  rw[List.drop_eq_nil_of_le (by simpa using h)]; rfl
theorem lM (c:UInt8):fB c=true↔(97≤c.toNat∧c.toNat≤122)∨(48≤c.toNat∧c.toNat≤57):=by
  simp [fB]
theorem pN (a:ByteArray):a.toList=a.data.toList:=ByteArray.toList_eq a
theorem aNn:∀ x y:List UInt8,Op.bytesLess x y=decide (dO x y<0)
  | [],[]=>rfl
  | [],_::_=>rfl
  | _::_,[]=>rfl
  | a::x,b::y=>by
    have ih:=aNn x y
    simp only[Op.bytesLess,dO]
    by_cases h1:a<b
    · simp [h1]
    · by_cases h2:a=b
      · subst h2
        have:¬ a<a:=by rw[UInt8.lt_iff_toNat_lt]; omega
        simp [this,ih]
      · have h3:b<a:=by
          rw[UInt8.lt_iff_toNat_lt] at h1 ⊢
          have:a.toNat≠b.toNat:=fun h=>h2 (UInt8.toNat_inj.1 h)
          omega
        simp [h1,h2,h3]
theorem zS:∀ x y:List UInt8,dO x y=0↔x=y
  | [],[]=>by simp [dO]
  | [],_::_=>by simp [dO]
  | _::_,[]=>by simp [dO]
  | a::x,b::y=>by
    have ih:=zS x y
    simp only[dO]
    by_cases h1:a<b
    · have:a≠b:=fun h=>by subst h; rw[UInt8.lt_iff_toNat_lt] at h1; omega
      simp [h1,this]
    · by_cases h2:b<a
      · have:a≠b:=fun h=>by subst h; exact h1 h2
        simp [h1,h2,this]
      · have:a=b:=UInt8.toNat_inj.1 (by rw[UInt8.lt_iff_toNat_lt] at h1 h2; omega)
        simp [h1,h2,this,ih]
theorem aBc:∀ x y:List UInt8,dO y x=- dO x y
  | [],[]=>rfl
  | [],_::_=>rfl
  | _::_,[]=>rfl
  | a::x,b::y=>by
    have ih:=aBc x y
    simp only[dO]
    by_cases h1:a<b
    · have:¬ b<a:=by rw[UInt8.lt_iff_toNat_lt] at h1 ⊢; omega
      simp [h1,this]
    · by_cases h2:b<a <;> simp [h1,h2,ih]
theorem yT:∀ x y:List UInt8,dO x y=-1∨dO x y=0∨dO x y=1
  | [],[]=>by simp [dO]
  | [],_::_=>by simp [dO]
  | _::_,[]=>by simp [dO]
  | a::x,b::y=>by
    have ih:=yT x y
    simp only[dO]
    split
    · simp
    · split
      · simp
      · exact ih
theorem pK:∀ x y z:List UInt8,dO x y≤0→dO y z≤0→dO x z≤0∧(dO x z=0→dO x y=0∧dO y z=0)
  | [],[],z=>by intro _ h; exact⟨h,fun h'=>⟨rfl,h'⟩⟩
  | [],b::y,[]=>by intro _ h; simp [dO] at h
  | [],b::y,c::z=>by intro _ _; simp [dO]
  | a::x,[],z=>by intro h; simp [dO] at h
  | a::x,b::y,[]=>by intro _ h; simp [dO] at h
  | a::x,b::y,c::z=>by
    have ih:=pK x y z
    simp only[dO]
    by_cases h1:a<b <;> by_cases h2:b<c <;> by_cases h3:a<c <;> by_cases h4:b<a <;> by_cases h5:c<b <;> by_cases h6:c<a <;>
      simp only[UInt8.lt_iff_toNat_lt,gt_iff_lt] at h1 h2 h3 h4 h5 h6 ⊢ <;> (try omega) <;> simp [h1,h2,h3,h4,h5,h6] <;> exact ih
theorem uT (a b:ByteArray):eR a b=0↔a=b:=by
  unfold eR; rw[zS]
  constructor
  · intro h; cases a; cases b; simp only[ByteArray.mk.injEq] at *; exact Array.toList_inj.1 h
  · rintro rfl; rfl
theorem qX (a b:ByteArray):eR b a=- eR a b:=aBc _ _
theorem rS (a b:ByteArray):eR a b=-1∨eR a b=0∨eR a b=1:=yT _ _
theorem aIp {a b c:ByteArray} (h1:eR a b≤0) (h2:eR b c≤0):eR a c≤0:=(pK _ _ _ h1 h2).1
theorem iQ {a b c:ByteArray} (h1:eR a b<0) (h2:eR b c<0):eR a c<0:=by
  have h:=pK a.data.toList b.data.toList c.data.toList (Int.le_of_lt h1) (Int.le_of_lt h2)
  have h3:=rS a c
  unfold eR at *
  omega
theorem yK {a b c:ByteArray} (h1:eR a b<0) (h2:eR b c≤0):eR a c<0:=by
  have h:=pK a.data.toList b.data.toList c.data.toList (Int.le_of_lt h1) h2
  unfold eR at *
  omega
theorem sY (a b:ByteArray):Op.bytesLess a.toList b.toList=true↔eR a b<0:=by
  rw[pN,pN,aNn]; simp [eR]
theorem pD (a b:ByteArray):a.toList=b.toList↔eR a b=0:=by
  rw[pN,pN,← zS]; rfl
def wO (l:List Int):List (List AV):=l.map fun a=>[.s (.int .i64 a)]
theorem aAw {l:List Int} {k:Nat} (h:k<l.length):(wO l)[((k:Nat):Int).toNat]?=some [.s (.int .i64 l[k])]:=by
  rw[Int.toNat_natCast]; simp [wO,h]
theorem iC (l:List Int):(wO l).length=l.length:=by simp [wO]
def orI:List Int→Int
  | []=>0
  | a::l=>if a≠0 then a else orI l
theorem aNe (l:List Int) (k:Nat) (h:k<l.length):orI (l.drop k)=if l[k]≠0 then l[k] else orI (l.drop (k+1)):=by
  rw[List.drop_eq_getElem_cons h]; rfl
theorem orI_end (l:List Int) (k:Nat) (h:l.length≤k):orI (l.drop k)=0:=by rw[List.drop_eq_nil_of_le h]; rfl
theorem aJm (p:ByteArray→Bool) (l:List ByteArray) (k:Nat) (h:k<l.length):(l.drop k).all p=(p l[k]&&(l.drop (k+1)).all p):=by
  rw[List.drop_eq_getElem_cons h]; rfl
theorem aXj (p:ByteArray→Bool) (l:List ByteArray) (k:Nat) (h:l.length≤k):(l.drop k).all p=true:=by
  rw[List.drop_eq_nil_of_le h]; rfl
def aAj (s:ByteArray):List ByteArray→Bool→List ByteArray
  | [],d=>if d then [] else [s]
  | x::r,d=>let c:=eR s x; let d1:=d||decide (c=0); if c<0∧d1=false then s::x::aAj s r true else x::aAj s r d1
def putL (l:List ByteArray) (s:ByteArray):List ByteArray:=aAj s l false
theorem aCu (s:ByteArray) (l:List ByteArray) (k:Nat) (d:Bool) (h:l.length≤k):aAj s (l.drop k) d=if d then [] else [s]:=by rw[List.drop_eq_nil_of_le h]; rfl
instance:DecidableEq ByteArray:=inferInstance
theorem toList_inj {a b:ByteArray}:a.toList=b.toList↔a=b:=by rw[pD,uT]
def xW (a b c d:ByteArray):Int:=orI [eR a c,eR b d]
def tK (a b s:ByteArray):Bool:=decide (a=s)||decide (b=s)
structure PutInv (l:List ByteArray) (s:ByteArray) (k n:Nat) (outv:List (List AV)) (d:Bool):Prop where
  hn:n=outv.length
  hk:k≤l.length
  out:∃ out,outv=aBn out∧putL l s=out++aAj s (l.drop k) d∧out.length≤2*k
theorem PutInv.start (l:List ByteArray) (s:ByteArray):PutInv l s 0 0 [] false:=⟨rfl,Nat.zero_le _,[],rfl,rfl,by simp⟩
theorem PutInv.fin_t {l:List ByteArray} {s:ByteArray} {k n:Nat} {outv:List (List AV)} {d:Bool} (h:PutInv l s k n outv d) (hk:l.length≤k) (hd:d=true):outv=aBn (putL l s):=by
  obtain ⟨e1,e2,out,e3,e4,e5⟩:=h
  subst hd
  rw[e4,aCu s l k true hk,e3]; simp
theorem PutInv.fin_f {l:List ByteArray} {s:ByteArray} {k n:Nat} {outv:List (List AV)} {d:Bool} (h:PutInv l s k n outv d) (hk:l.length≤k) (hd:d=false):outv++[[.s (.string s)]]=aBn (putL l s):=by
  obtain ⟨e1,e2,out,e3,e4,e5⟩:=h
  subst hd
  rw[e4,aCu s l k false hk,e3]; simp [aBn]
theorem PutInv.le {l:List ByteArray} {s:ByteArray} {k n:Nat} {outv:List (List AV)} {d:Bool} (h:PutInv l s k n outv d):n≤2*k:=by
  obtain ⟨e1,e2,out,e3,e4,e5⟩:=h
  rw[e1,e3,jU]; exact e5
end Go.Abs
set_option linter.unusedVariables false
set_option linter.unusedSimpArgs false
namespace Go.Proofs.YtpkanhklapfajaaGreat.Nm
open Go Go.Abs
theorem refCmp_den (a b:ByteArray) (ha:TS a) (hb:TS b) :Den Tryz.prog 40 [.s (.string a),.s (.string b)]  (·=.s (.int .i64 (eR a b))):=by
 unfold eR
 refine aR Tryz.func40 rfl (Nat.le_of_ble_eq_true rfl) (fun w0 A hf=>(aC (fun K1 hK1=>(aB (aE aA 1 rfl (aD (hK1 _ (aC (fun K2 hK2=>(aC (fun K3 hK3=>(aB (aE aA 1 rfl (aD (hK3 _ (aP ?_))))))))))))))))
 refine bT (ι:=Nat) (fun k=>⟨42,[(0,.s (.string a)),(1,.s (.string b)),(5,.s (.int .i64 (k:Nat)))],[]⟩) (fun k=>k≤a.size∧k≤b.size∧dO a.data.toList b.data.toList=dO (a.data.toList.drop k) (b.data.toList.drop k)) (fun k=>a.size - k) 0 ?_ ?_ ?_
 · exact⟨by omega,by omega,rfl⟩
 · exact cQ rfl
 ·
  rintro k hC
  obtain ⟨h1,h2,hcmp⟩:=hC
  refine aC (fun K4 hK4=>(aC (fun K5 hK5=>(aB (aE aA 2 rfl (aH rfl (gO rfl Tryz.underlying9) (aE aA 2 rfl (aU rfl rfl rfl (fun hg1=>?_) (fun hg1=>?_)))))))))
  ·
   simp only[bs] at hg1
   refine aH rfl (fZ rfl) (aE aA 1 rfl (aX rfl rfl rfl (aH rfl (gO rfl Tryz.underlying9) (aE aA 2 rfl (aD (hK5 _ (aL rfl (fun hc2=>?_) (fun hc2=>?_))))))))
   ·
    simp only[bs] at hc2
    refine aN (hK4 _ (aC (fun K6 hK6=>(aP (aC (fun K7 hK7=>(aC (fun K8 hK8=>(cP hf bE (by kernel_rfl) rfl (aV aA 2 rfl (bQ [(18,_),(19,_)] rfl rfl ⟨⟨rfl,rfl⟩,⟨rfl,rfl⟩,trivial⟩ rfl (qT rfl rfl Tryz.underlying9 (by first | assumption | (refine⟨by omega,?_⟩; first | assumption | exact aBo (by omega)))) ?_)))))))))))
    refine aV aA 2 rfl (bQ [(21,_),(22,_)] rfl rfl ⟨⟨rfl,rfl⟩,⟨rfl,rfl⟩,trivial⟩ rfl (qT rfl rfl Tryz.underlying9 (by first | assumption | (refine⟨by omega,?_⟩; first | assumption | exact aBo (by omega)))) ?_)
    refine aV aA 1 rfl (cT [0,1,5,24] rfl rfl rfl (hK8 _ (aL rfl (fun hc3=>?_) (fun hc3=>?_))))
    ·
     simp only[bs] at hc3
     refine aC (fun K9 hK9=>(aB (aE aA 1 rfl (aD (hK9 _ (aJ ?_))))))
     refine⟨_,rfl,?_⟩
     refine dM ?_
     rw[hcmp,uS a b k (by omega) (by omega),if_pos (by rw[UInt8.lt_iff_toNat_lt]; omega)]
    ·
     simp only[bs] at hc3
     refine aN (hK7 _ (aC (fun K10 hK10=>(cP hf bE (by kernel_rfl) rfl (aV aA 2 rfl (bQ [(25,_),(26,_)] rfl rfl ⟨⟨rfl,rfl⟩,⟨rfl,rfl⟩,trivial⟩ rfl (qT rfl rfl Tryz.underlying9 (by first | assumption | (refine⟨by omega,?_⟩; first | assumption | exact aBo (by omega)))) ?_))))))
     refine aV aA 2 rfl (bQ [(28,_),(29,_)] rfl rfl ⟨⟨rfl,rfl⟩,⟨rfl,rfl⟩,trivial⟩ rfl (qT rfl rfl Tryz.underlying9 (by first | assumption | (refine⟨by omega,?_⟩; first | assumption | exact aBo (by omega)))) ?_)
     refine aV aA 1 rfl (cT [0,1,5,31] rfl rfl rfl (hK10 _ (aL rfl (fun hc4=>?_) (fun hc4=>?_))))
     ·
      simp only[bs] at hc4
      refine aC (fun K11 hK11=>(aB (aE aA 1 rfl (aD (hK11 _ (aJ ?_))))))
      refine⟨_,rfl,?_⟩
      refine dM ?_
      rw[hcmp,uS a b k (by omega) (by omega),if_neg (by rw[UInt8.lt_iff_toNat_lt]; omega),if_pos (by show b[k]<a[k]; rw[UInt8.lt_iff_toNat_lt]; omega)]
     ·
      simp only[bs] at hc4
      refine aN (hK6 _ (aB (aE aA 1 rfl ?_)))
      refine aH rfl (bO rfl rfl (by omega) (by omega)) ?_
      refine aE aA 1 rfl (aD ?_)
      exact⟨k+1,⟨by omega,by omega,by rw[hcmp,uS a b k (by omega) (by omega),if_neg (by rw[UInt8.lt_iff_toNat_lt]; omega),if_neg (by show ¬ b[k]<a[k]; rw[UInt8.lt_iff_toNat_lt]; omega)]⟩,by omega,cQ rfl⟩
   ·
    simp only[bs] at hc2
    refine bF (hK2 _ (aC (fun K12 hK12=>(aC (fun K13 hK13=>(aB (aE aA 1 rfl (aH rfl (gO rfl Tryz.underlying9) (aE aA 1 rfl (aH rfl (gO rfl Tryz.underlying9) (aE aA 1 rfl (aD (hK13 _ (aL rfl (fun hc5=>?_) (fun hc5=>?_)))))))))))))))
    ·
     simp only[bs] at hc5
     refine aC (fun K14 hK14=>(aB (aE aA 1 rfl (aD (hK14 _ (aJ ?_))))))
     refine⟨_,rfl,?_⟩
     refine dM ?_
     rw[hcmp,nH a b k h1 h2 (by omega)]
     (repeat' split) <;> first | rfl | omega
    ·
     simp only[bs] at hc5
     refine aN (hK12 _ (aC (fun K15 hK15=>(aC (fun K16 hK16=>(aB (aE aA 1 rfl (aH rfl (gO rfl Tryz.underlying9) (aE aA 1 rfl (aH rfl (gO rfl Tryz.underlying9) (aE aA 1 rfl (aD (hK16 _ (aL rfl (fun hc6=>?_) (fun hc6=>?_)))))))))))))))
     ·
      simp only[bs] at hc6
      refine aC (fun K17 hK17=>(aB (aE aA 1 rfl (aD (hK17 _ (aJ ?_))))))
      refine⟨_,rfl,?_⟩
      refine dM ?_
      rw[hcmp,nH a b k h1 h2 (by omega)]
      (repeat' split) <;> first | rfl | omega
     ·
      simp only[bs] at hc6
      refine aN (hK15 _ (aC (fun K18 hK18=>(aB (aE aA 1 rfl (aD (hK18 _ (aJ ?_))))))))
      refine⟨_,rfl,?_⟩
      refine dM ?_
      rw[hcmp,nH a b k h1 h2 (by omega)]
      (repeat' split) <;> first | rfl | omega
  ·
   simp only[bs] at hg1
   refine aE aA 4 rfl (aD (hK5 _ (bW rfl (bF (hK2 _ (aC (fun K19 hK19=>(aC (fun K20 hK20=>(aB (aE aA 1 rfl (aH rfl (gO rfl Tryz.underlying9) (aE aA 1 rfl (aH rfl (gO rfl Tryz.underlying9) ?_))))))))))))))
   refine aE aA 1 rfl (aD (hK20 _ (aL rfl (fun hc8=>?_) (fun hc8=>?_))))
   ·
    simp only[bs] at hc8
    refine aC (fun K21 hK21=>(aB (aE aA 1 rfl (aD (hK21 _ (aJ ?_))))))
    refine⟨_,rfl,?_⟩
    refine dM ?_
    rw[hcmp,nH a b k h1 h2 (by omega)]
    (repeat' split) <;> first | rfl | omega
   ·
    simp only[bs] at hc8
    refine aN (hK19 _ (aC (fun K22 hK22=>(aC (fun K23 hK23=>(aB (aE aA 1 rfl (aH rfl (gO rfl Tryz.underlying9) (aE aA 1 rfl (aH rfl (gO rfl Tryz.underlying9) (aE aA 1 rfl (aD (hK23 _ (aL rfl (fun hc9=>?_) (fun hc9=>?_)))))))))))))))
    ·
     simp only[bs] at hc9
     refine aC (fun K24 hK24=>(aB (aE aA 1 rfl (aD (hK24 _ (aJ ?_))))))
     refine⟨_,rfl,?_⟩
     refine dM ?_
     rw[hcmp,nH a b k h1 h2 (by omega)]
     (repeat' split) <;> first | rfl | omega
    ·
     simp only[bs] at hc9
     refine aN (hK22 _ (aC (fun K25 hK25=>(aB (aE aA 1 rfl (aD (hK25 _ (aJ ?_))))))))
     refine⟨_,rfl,?_⟩
     refine dM ?_
     rw[hcmp,nH a b k h1 h2 (by omega)]
     (repeat' split) <;> first | rfl | omega
theorem aRg (c:UInt8) :Den Tryz.prog 147 [.s (.int .u8 (c.toNat:Int))]  (·=.s (.bool (fB c))):=by
 refine aR Tryz.func147 rfl (Nat.le_of_ble_eq_true rfl) (fun w0 A hf=>(aC (fun K1 hK1=>(aB (aE aA 1 rfl (aD (hK1 _ (aC (fun K2 hK2=>(aB (aE aA 3 rfl (aU rfl rfl rfl (fun hg1=>?_) (fun hg1=>?_)))))))))))))
 ·
  simp only[bs] at hg1
  refine aH rfl (fZ rfl) (aE aA 3 rfl (aU rfl rfl rfl (fun hg2=>?_) (fun hg2=>?_)))
  ·
   simp only[bs] at hg2
   refine aH rfl (fZ rfl) (aE aA 2 rfl (aU rfl rfl rfl (fun hg3=>?_) (fun hg3=>?_)))
   ·
    simp only[bs] at hg3
    refine aH rfl (fZ rfl) (aE aA 4 rfl (aD (hK2 _ (aJ ?_))))
    refine⟨_,rfl,?_⟩
    refine aO ?_
    rw[Bool.eq_iff_iff]
    simp only[fB,Bool.or_eq_true,Bool.and_eq_true,decide_eq_true_eq,true_iff,Bool.false_eq_true,false_iff]
    omega
   ·
    simp only[bs] at hg3
    refine aE aA 4 rfl (aD (hK2 _ (aJ ?_)))
    refine⟨_,rfl,?_⟩
    refine aO ?_
    rw[Bool.eq_iff_iff]
    simp only[fB,Bool.or_eq_true,Bool.and_eq_true,decide_eq_true_eq,true_iff,Bool.false_eq_true,false_iff]
    omega
  ·
   simp only[bs] at hg2
   refine aE aA 2 rfl (dI rfl rfl rfl ?_)
   refine dI rfl rfl rfl ?_
   refine aE aA 3 rfl (aD (hK2 _ (aJ ?_)))
   refine⟨_,rfl,?_⟩
   refine aO ?_
   rw[Bool.eq_iff_iff]
   simp only[fB,Bool.or_eq_true,Bool.and_eq_true,decide_eq_true_eq,true_iff,Bool.false_eq_true,false_iff]
   omega
 ·
  simp only[bs] at hg1
  refine aE aA 6 rfl (aU rfl rfl rfl (fun hg4=>?_) (fun hg4=>?_))
  ·
   simp only[bs] at hg4
   refine aH rfl (fZ rfl) (aE aA 4 rfl (aD (hK2 _ (aJ ?_))))
   refine⟨_,rfl,?_⟩
   refine aO ?_
   rw[Bool.eq_iff_iff]
   simp only[fB,Bool.or_eq_true,Bool.and_eq_true,decide_eq_true_eq,true_iff,Bool.false_eq_true,false_iff]
   omega
  ·
   simp only[bs] at hg4
   refine aE aA 4 rfl (aD (hK2 _ (aJ ?_)))
   refine⟨_,rfl,?_⟩
   refine aO ?_
   rw[Bool.eq_iff_iff]
   simp only[fB,Bool.or_eq_true,Bool.and_eq_true,decide_eq_true_eq,true_iff,Bool.false_eq_true,false_iff]
   omega
theorem right_den (s:ByteArray) (hs:TS s) :Den Tryz.prog 108 [.s (.string s)]  (·=.s (.bool (cF s))):=by
 refine aR Tryz.func108 rfl (Nat.le_of_ble_eq_true rfl) (fun w0 A hf=>(aC (fun K1 hK1=>(aB (aE aA 1 rfl (aD (hK1 _ (aC (fun K2 hK2=>(aC (fun K3 hK3=>(aB (aE aA 1 rfl (aH rfl (gO rfl Tryz.underlying9) (aE aA 1 rfl (aD ?_))))))))))))))))
 refine hK3 _ (aP (bT (ι:=Nat) (fun k=>⟨23,[(0,.s (.string s)),(5,.s (.int .i64 (s.size:Nat))),(6,.s (.int .i64 (k:Nat)))],[]⟩) (fun k=>k≤s.size∧s.data.toList.all fB=(s.data.toList.drop k).all fB) (fun k=>s.size - k) 0 ?_ ?_ ?_))
 · exact⟨by omega,rfl⟩
 · exact cQ rfl
 ·
  rintro k hC
  obtain ⟨h1,h2⟩:=hC
  refine aC (fun K4 hK4=>(aB (aE aA 1 rfl (aD (hK4 _ (aC (fun K5 hK5=>(aL rfl (fun hc1=>?_) (fun hc1=>?_)))))))))
  ·
   simp only[bs] at hc1
   refine aN (hK5 _ (aC (fun K6 hK6=>(aP (aC (fun K7 hK7=>(aB (aE aA 2 rfl (aD (hK7 _ (aC (fun K8 hK8=>(aB (aE aA 2 rfl (aH rfl (qT rfl rfl Tryz.underlying9 (by first | assumption | (refine⟨by omega,?_⟩; first | assumption | exact aBo (by omega)))) ?_)))))))))))))))
   refine aI hf rfl (aK rfl rfl aP3 rfl (aRg _)) (aE aA 1 rfl (aD (hK8 _ (aL rfl (fun hc2=>?_) (fun hc2=>?_)))))
   ·
    simp only[bs] at hc2
    refine aC (fun K9 hK9=>(aB (aE aA 1 rfl (aD (hK9 _ (aJ ?_))))))
    refine⟨_,rfl,?_⟩
    refine aO ?_
    rw[cF,h2,oF fB s k (by omega)]; simp_all
   ·
    simp only[bs] at hc2
    refine aN (hK6 _ (aB ?_))
    refine aH rfl (bO rfl rfl (by omega) (by omega)) ?_
    refine aE aA 1 rfl (aD ?_)
    exact⟨k+1,⟨by omega,by rw[h2,oF fB s k (by omega)]; simp_all⟩,by omega,cQ rfl⟩
  ·
   simp only[bs] at hc1
   refine bF (hK2 _ (aC (fun K10 hK10=>(aB (aE aA 1 rfl (aH rfl (gO rfl Tryz.underlying9) (aE aA 2 rfl (aU rfl rfl rfl (fun hg3=>?_) (fun hg3=>?_)))))))))
   ·
    simp only[bs] at hg3
    refine aH rfl (fZ rfl) (aX rfl rfl rfl (aH rfl (gO rfl Tryz.underlying9) (aE aA 3 rfl (aD (hK10 _ (aJ ?_))))))
    refine⟨_,rfl,?_⟩
    refine aO ?_
    rw[cF,h2,aLv fB s k (by omega)]
    rw[Bool.eq_iff_iff]
    simp only[Bool.and_eq_true,decide_eq_true_eq,true_iff,Bool.false_eq_true,false_iff,and_true]
    omega
   ·
    simp only[bs] at hg3
    refine aE aA 4 rfl (aD (hK10 _ (aJ ?_)))
    refine⟨_,rfl,?_⟩
    refine aO ?_
    rw[cF,h2,aLv fB s k (by omega)]
    rw[Bool.eq_iff_iff]
    simp only[Bool.and_eq_true,decide_eq_true_eq,true_iff,Bool.false_eq_true,false_iff,and_true]
    omega
theorem refRight_den (s:ByteArray) (hs:TS s) :Den Tryz.prog 31 [.s (.string s)]  (·=.s (.bool (cF s))):=by
 refine aR Tryz.func31 rfl (Nat.le_of_ble_eq_true rfl) (fun w0 A hf=>(aC (fun K1 hK1=>(aB (aE aA 1 rfl (aD (hK1 _ (aC (fun K2 hK2=>(aC (fun K3 hK3=>(aB (aE aA 1 rfl (aH rfl (gO rfl Tryz.underlying9) (aE aA 2 rfl (aU rfl rfl rfl (fun hg1=>?_) (fun hg1=>?_)))))))))))))))))
 ·
  simp only[bs] at hg1
  refine aH rfl (fZ rfl) (aX rfl rfl rfl (aH rfl (gO rfl Tryz.underlying9) (aE aA 2 rfl (aD (hK3 _ (aL rfl (fun hc2=>?_) (fun hc2=>?_)))))))
  ·
   simp only[bs] at hc2
   refine aC (fun K4 hK4=>(aB (aE aA 1 rfl (aD (hK4 _ (aJ ?_))))))
   refine⟨_,rfl,?_⟩
   refine aO ?_
   rw[eq_comm,cF,Bool.eq_false_iff]
   simp only[ne_eq,Bool.and_eq_true,decide_eq_true_eq]
   omega
  ·
   simp only[bs] at hc2
   refine aN (hK2 _ (aC (fun K5 hK5=>(aC (fun K6 hK6=>(aB (aE aA 1 rfl (aD (hK6 _ (aP (bT (ι:=Nat) (fun k=>⟨38,[(0,.s (.string s)),(3,.s (.int .i64 (k:Nat)))],[]⟩) (fun k=>k≤s.size∧s.data.toList.all fB=(s.data.toList.drop k).all fB) (fun k=>s.size - k) 0 ?_ ?_ ?_)))))))))))
   · exact⟨by omega,rfl⟩
   · exact cQ rfl
   ·
    rintro k hC
    obtain ⟨h1,h2⟩:=hC
    refine aC (fun K7 hK7=>(aC (fun K8 hK8=>(aB (aE aA 2 rfl (aH rfl (gO rfl Tryz.underlying9) (aE aA 1 rfl (aD (hK8 _ (aL rfl (fun hc3=>?_) (fun hc3=>?_)))))))))))
    ·
     simp only[bs] at hc3
     refine aN (hK7 _ (aC (fun K9 hK9=>(aP (aC (fun K10 hK10=>(aB (aE aA 2 rfl (aH rfl (qT rfl rfl Tryz.underlying9 (by first | assumption | (refine⟨by omega,?_⟩; first | assumption | exact aBo (by omega)))) ?_)))))))))
     refine aE aA 1 rfl (aD (hK10 _ (aC (fun K11 hK11=>(aB (aE aA 3 rfl (aU rfl rfl rfl (fun hg4=>?_) (fun hg4=>?_))))))))
     ·
      simp only[bs] at hg4
      refine aH rfl (fZ rfl) (aE aA 4 rfl (aU rfl rfl rfl (fun hg5=>?_) (fun hg5=>?_)))
      ·
       simp only[bs] at hg5
       refine aH rfl (fZ rfl) (aE aA 2 rfl (aU rfl rfl rfl (fun hg6=>?_) (fun hg6=>?_)))
       ·
        simp only[bs] at hg6
        refine aH rfl (fZ rfl) (aE aA 4 rfl (aD (hK11 _ (aL rfl (fun hc7=>?_) (fun hc7=>?_)))))
        ·
         simp only[bs] at hc7
         refine aC (fun K12 hK12=>(aB (aE aA 1 rfl (aD (hK12 _ (aJ ?_))))))
         refine⟨_,rfl,?_⟩
         refine aO ?_
         rw[cF,h2,oF fB s k (by omega),show fB s[k]=false from Bool.eq_false_iff.2 (fun h=>by have:=(lM _).1 h; omega)]; simp
        ·
         simp only[bs] at hc7
         refine aN (hK9 _ (aB (aE aA 1 rfl ?_)))
         refine aH rfl (bO rfl rfl (by omega) (by omega)) ?_
         refine aE aA 1 rfl (aD ?_)
         exact⟨k+1,⟨by omega,by rw[h2,oF fB s k (by omega),(lM _).2 (by omega)]; rfl⟩,by omega,cQ rfl⟩
       ·
        simp only[bs] at hg6
        refine aE aA 4 rfl (aD (hK11 _ (bN rfl (aC (fun K13 hK13=>(aB (aE aA 1 rfl (aD (hK13 _ (aJ ?_))))))))))
        refine⟨_,rfl,?_⟩
        refine aO ?_
        rw[cF,h2,oF fB s k (by omega),show fB s[k]=false from Bool.eq_false_iff.2 (fun h=>by have:=(lM _).1 h; omega)]; simp
      ·
       simp only[bs] at hg5
       refine aE aA 2 rfl (dI rfl rfl rfl ?_)
       refine dI rfl rfl rfl ?_
       refine aE aA 3 rfl (aD (hK11 _ (bW rfl (aN (hK9 _ (aB (aE aA 1 rfl ?_)))))))
       refine aH rfl (bO rfl rfl (by omega) (by omega)) ?_
       refine aE aA 1 rfl (aD ?_)
       exact⟨k+1,⟨by omega,by rw[h2,oF fB s k (by omega),(lM _).2 (by omega)]; rfl⟩,by omega,cQ rfl⟩
     ·
      simp only[bs] at hg4
      refine aE aA 7 rfl (aU rfl rfl rfl (fun hg10=>?_) (fun hg10=>?_))
      ·
       simp only[bs] at hg10
       refine aH rfl (fZ rfl) (aE aA 4 rfl (aD (hK11 _ (aL rfl (fun hc11=>?_) (fun hc11=>?_)))))
       ·
        simp only[bs] at hc11
        refine aC (fun K14 hK14=>(aB (aE aA 1 rfl (aD (hK14 _ (aJ ?_))))))
        refine⟨_,rfl,?_⟩
        refine aO ?_
        rw[cF,h2,oF fB s k (by omega),show fB s[k]=false from Bool.eq_false_iff.2 (fun h=>by have:=(lM _).1 h; omega)]; simp
       ·
        simp only[bs] at hc11
        refine aN (hK9 _ (aB (aE aA 1 rfl ?_)))
        refine aH rfl (bO rfl rfl (by omega) (by omega)) ?_
        refine aE aA 1 rfl (aD ?_)
        exact⟨k+1,⟨by omega,by rw[h2,oF fB s k (by omega),(lM _).2 (by omega)]; rfl⟩,by omega,cQ rfl⟩
      ·
       simp only[bs] at hg10
       refine aE aA 4 rfl (aD (hK11 _ (bN rfl (aC (fun K15 hK15=>(aB (aE aA 1 rfl (aD (hK15 _ (aJ ?_))))))))))
       refine⟨_,rfl,?_⟩
       refine aO ?_
       rw[cF,h2,oF fB s k (by omega),show fB s[k]=false from Bool.eq_false_iff.2 (fun h=>by have:=(lM _).1 h; omega)]; simp
    ·
     simp only[bs] at hc3
     refine bF (hK5 _ (aC (fun K16 hK16=>(aB (aE aA 1 rfl (aD (hK16 _ (aJ ?_))))))))
     refine⟨_,rfl,?_⟩
     refine aO ?_
     rw[cF,h2,aLv fB s k (by omega),eq_comm]
     simp only[Bool.and_eq_true,decide_eq_true_eq,and_true]
     omega
 ·
  simp only[bs] at hg1
  refine aE aA 3 rfl (aD (hK3 _ (bN rfl (aC (fun K17 hK17=>(aB (aE aA 1 rfl (aD (hK17 _ (aJ ?_))))))))))
  refine⟨_,rfl,?_⟩
  refine aO ?_
  rw[eq_comm,cF,Bool.eq_false_iff]
  simp only[ne_eq,Bool.and_eq_true,decide_eq_true_eq]
  omega
end Go.Proofs.YtpkanhklapfajaaGreat.Nm
set_option linter.unusedVariables false
set_option linter.unusedSimpArgs false
namespace Go.Proofs.YtpkanhklapfajaaGreat.Nm
open Go Go.Abs
theorem tP (s:ByteArray) :Den Tryz.prog 199 [.s (.string s)]  (·=.s (.bool false)):=by
 refine aR Tryz.func199 rfl (Nat.le_of_ble_eq_true rfl) (fun w0 A hf=>(aC (fun K1 hK1=>(aB (aE aA 1 rfl (aD (hK1 _ (aC (fun K2 hK2=>(aB (aE aA 4 rfl (aD (hK2 _ (aJ ?_))))))))))))))
 refine⟨_,rfl,?_⟩
 refine aO ?_
 simp
theorem kJ (a b:ByteArray) :Den Tryz.prog 173 [.s (.string a),.s (.string b)]  (·=.s (.int .i64 (eR a b))):=by
 refine aR Tryz.func173 rfl (Nat.le_of_ble_eq_true rfl) (fun w0 A hf=>(aC (fun K1 hK1=>(aB (aE aA 1 rfl (aD (hK1 _ (aC (fun K2 hK2=>(aB (aE aA 1 rfl (aI hf rfl (aK rfl rfl aDp rfl (tP _)) (aE aA 1 rfl (aD (hK2 _ ?_)))))))))))))))
 refine aC (fun K3 hK3=>(aB (aE aA 1 rfl (aI hf rfl (aK rfl rfl aDp rfl (tP _)) (aE aA 1 rfl (aD (hK3 _ (aC (fun K4 hK4=>(aC (fun K5 hK5=>(aB (aE aA 1 rfl (aD (hK5 _ ?_)))))))))))))))
 refine bW rfl (aN (hK4 _ (aC (fun K6 hK6=>(aC (fun K7 hK7=>(aB (aE aA 1 rfl (aD (hK7 _ (bW rfl (aN (hK6 _ (aC (fun K8 hK8=>?_)))))))))))))))
 refine aC (fun K9 hK9=>(aB (aE aA 3 rfl (aD (hK9 _ (aL rfl (fun hc3=>?_) (fun hc3=>?_)))))))
 ·
  refine aC (fun K10 hK10=>(aB (aE aA 1 rfl (aD (hK10 _ (aJ ?_))))))
  refine⟨_,rfl,?_⟩
  refine dM ?_
  have h1:=sY a b
  have h2:=pD a b
  have h3:=rS a b
  have:=h1.1 (by assumption)
  omega
 ·
  refine aN (hK8 _ (aC (fun K11 hK11=>(aC (fun K12 hK12=>(aB (aE aA 3 rfl (aD (hK12 _ (aL rfl (fun hc4=>?_) (fun hc4=>?_)))))))))))
  ·
   simp only[bs,jU,iC,List.length_cons,List.length_nil] at hc4
   refine aC (fun K13 hK13=>(aB (aE aA 1 rfl (aD (hK13 _ (aJ ?_))))))
   refine⟨_,rfl,?_⟩
   refine dM ?_
   have h1:=sY a b
   have h2:=pD a b
   have h3:=rS a b
   have h4:¬ eR a b<0:=fun h=>by have e:=h1.2 h; simp_all
   have h5:¬ eR a b=0:=fun h=>by have e:=h2.2 h; simp_all
   omega
  ·
   simp only[bs,jU,iC,List.length_cons,List.length_nil] at hc4
   refine aN (hK11 _ (aC (fun K14 hK14=>(aB (aE aA 1 rfl (aD (hK14 _ (aJ ?_))))))))
   refine⟨_,rfl,?_⟩
   refine dM ?_
   have h1:=sY a b
   have h2:=pD a b
   have h3:=rS a b
   have h4:¬ eR a b<0:=fun h=>by have e:=h1.2 h; simp_all
   have h5:eR a b=0:=h2.1 (by simp_all)
   omega
theorem cmp_den (a b:ByteArray) :Den Tryz.prog 138 [.s (.string a),.s (.string b)]  (·=.s (.int .i64 (eR a b))):=by
 refine aR Tryz.func138 rfl (Nat.le_of_ble_eq_true rfl) (fun w0 A hf=>(aC (fun K1 hK1=>(aB (aE aA 1 rfl (aD (hK1 _ (aC (fun K2 hK2=>(aB (aE aA 2 rfl (aI hf rfl (aK rfl rfl aPn rfl (kJ _ _)) (aE aA 1 rfl (aD (hK2 _ ?_)))))))))))))))
 refine aJ ?_
 refine⟨_,rfl,?_⟩
 rfl
theorem aYb (s:ByteArray) (hs:TS s) :Den Tryz.prog 149 [.s (.string s)]  (·=.s (.bool (!cF s))):=by
 refine aR Tryz.func149 rfl (Nat.le_of_ble_eq_true rfl) (fun w0 A hf=>(aC (fun K1 hK1=>(aB (aE aA 1 rfl (aD (hK1 _ (aC (fun K2 hK2=>(aB (aE aA 1 rfl (aI hf rfl (aK rfl rfl kK rfl (right_den _ (by first | assumption | (apply hl; simp)))) ?_))))))))))))
 refine aE aA 2 rfl (aD (hK2 _ (aJ ?_)))
 refine⟨_,rfl,?_⟩
 rfl
theorem aK3 (l:List ByteArray) (hl:TL l) :Den Tryz.prog 175 [.sl 1 (aBn l),.fn 149 []]  (fun r=>∃ z:Int,r=.s (.int .i64 z)∧decide (0≤z)=!(l.all cF)):=by
 obtain ⟨hl1,hl2⟩:=hl
 refine aR Tryz.func175 rfl (Nat.le_of_ble_eq_true rfl) (fun w0 A hf=>(aC (fun K1 hK1=>(aB (aE aA 1 rfl (aD (hK1 _ (aC (fun K2 hK2=>(aC (fun K3 hK3=>(aB (aE aA 3 rfl (aD (hK3 _ (aP ?_))))))))))))))))
 refine bT (ι:=Nat) (fun k=>⟨19,[(0,.sl 1 (aBn l)),(1,.fn 149 []),(7,.s (.int .i64 ((aBn l).length:Nat))),(8,.s (.int .i64 (k:Nat)))],[]⟩) (fun k=>k≤l.length∧l.all cF=(l.drop k).all cF) (fun k=>l.length - k) 0 ?_ ?_ ?_
 · exact⟨by omega,rfl⟩
 · exact cQ rfl
 ·
  rintro k hC
  obtain ⟨h1,h2⟩:=hC
  refine aC (fun K4 hK4=>(aB (aE aA 1 rfl (aD (hK4 _ (aC (fun K5 hK5=>(aL rfl (fun hc1=>?_) (fun hc1=>?_)))))))))
  ·
   simp only[bs,jU,iC,List.length_cons,List.length_nil] at hc1
   refine aN (hK5 _ (aC (fun K6 hK6=>(aP (aC (fun K7 hK7=>(aB (aE aA 2 rfl (aD (hK7 _ (aC (fun K8 hK8=>(aB (aE aA 3 rfl ?_))))))))))))))
   refine aH rfl (bG rfl rfl aWe cU (by first | assumption | (refine⟨by omega,?_⟩; first | assumption | exact pE (by omega) | exact pE (by simp only[List.length_cons] at *; omega) | exact aAw (by omega) | exact aB2 (by omega) | exact aAu (by omega)) | exact⟨by decide,rfl⟩)) ?_
   refine aH rfl (aKs rfl aUd rfl) ?_
   refine aI hf rfl (aK rfl rfl aP1 rfl (aYb _ (hl2 _ (List.getElem_mem _)))) (aD (hK8 _ (aL rfl (fun hc2=>?_) (fun hc2=>?_))))
   ·
    simp only[bs,jU,iC,List.length_cons,List.length_nil] at hc2
    refine aC (fun K9 hK9=>(aB (aE aA 2 rfl (aD (hK9 _ (aJ ?_))))))
    refine⟨_,rfl,?_⟩
    refine⟨_,rfl,?_⟩
    rw[h2,aJm cF l k (by omega)]
    simp_all
   ·
    simp only[bs,jU,iC,List.length_cons,List.length_nil] at hc2
    refine aN (hK6 _ (aB ?_))
    refine aH rfl (bO rfl rfl (by omega) (by omega)) ?_
    refine aE aA 1 rfl (aD ?_)
    exact⟨k+1,⟨by omega,by rw[h2,aJm cF l k (by omega)]; simp_all⟩,by omega,cQ rfl⟩
  ·
   simp only[bs,jU,iC,List.length_cons,List.length_nil] at hc1
   refine bF (hK2 _ (aC (fun K10 hK10=>(aB (aE aA 1 rfl (aD (hK10 _ (aJ ?_))))))))
   refine⟨_,rfl,?_⟩
   refine⟨_,rfl,?_⟩
   rw[h2,aXj cF l k (by omega)]
   rfl
theorem aEi (l:List ByteArray) (hl:TL l) :Den Tryz.prog 148 [.sl 1 (aBn l),.fn 149 []]  (·=.s (.bool (!(l.all cF)))):=by
 refine aR Tryz.func148 rfl (Nat.le_of_ble_eq_true rfl) (fun w0 A hf=>(aC (fun K1 hK1=>(aB (aE aA 1 rfl (aD (hK1 _ (aC (fun K2 hK2=>(aB (aE aA 2 rfl (y_call hf rfl rfl rfl aPl rfl (aK3 _ (by assumption)) ?_))))))))))))
 rintro _ ⟨z,rfl,hz⟩
 refine aE aA 2 rfl (aD (hK2 _ (aJ ?_)))
 refine⟨_,rfl,?_⟩
 refine aO ?_
 rw[← hz]
theorem all_den (l:List ByteArray) (hl:TL l) :Den Tryz.prog 109 [.sl 1 (aBn l)]  (·=.s (.bool (l.all cF))):=by
 refine aR Tryz.func109 rfl (Nat.le_of_ble_eq_true rfl) (fun w0 A hf=>(aC (fun K1 hK1=>(aB (aE aA 1 rfl (aD (hK1 _ (aC (fun K2 hK2=>(aB (aE aA 1 rfl (aI hf rfl (aK rfl rfl aP2 rfl (aEi _ (by assumption))) (aE aA 2 rfl (aD (hK2 _ ?_)))))))))))))))
 refine aJ ?_
 refine⟨_,rfl,?_⟩
 refine aO ?_
 simp
theorem or_den (l:List Int) (hl:l.length≤9223372036854775807) :Den Tryz.prog 127 [.sl 1 (wO l)]  (·=.s (.int .i64 (orI l))):=by
 refine aR Tryz.func127 rfl (Nat.le_of_ble_eq_true rfl) (fun w0 A hf=>(aC (fun K1 hK1=>(aB (aE aA 1 rfl (aD (hK1 _ (aC (fun K2 hK2=>(aB (aE aA 1 rfl (aD (hK2 _ (aC (fun K3 hK3=>(aC (fun K4 hK4=>?_)))))))))))))))))
 refine aB (aE aA 3 rfl (aD (hK4 _ (aP (bT (ι:=Nat) (fun k=>⟨18,[(3,.s (.int .i64 0)),(6,.sl 1 (wO l)),(7,.s (.int .i64 ((wO l).length:Nat))),(8,.s (.int .i64 (k:Nat)))],[]⟩) (fun k=>k≤l.length∧orI l=orI (l.drop k)) (fun k=>l.length - k) 0 ?_ ?_ ?_)))))
 · exact⟨by omega,rfl⟩
 · exact cQ rfl
 ·
  rintro k hC
  obtain ⟨h1,h2⟩:=hC
  refine aC (fun K5 hK5=>(aB (aE aA 1 rfl (aD (hK5 _ (aC (fun K6 hK6=>(aL rfl (fun hc1=>?_) (fun hc1=>?_)))))))))
  ·
   simp only[bs,jU,iC,List.length_cons,List.length_nil] at hc1
   refine aN (hK6 _ (aC (fun K7 hK7=>(aP (aC (fun K8 hK8=>(aB ?_)))))))
   refine aH rfl (bG rfl rfl iF cA (by first | assumption | (refine⟨by omega,?_⟩; first | assumption | exact pE (by omega) | exact pE (by simp only[List.length_cons] at *; omega) | exact aAw (by omega) | exact aB2 (by omega) | exact aAu (by omega)) | exact⟨by decide,rfl⟩)) ?_
   refine aH rfl (aKs rfl lE rfl) ?_
   refine aE aA 1 rfl (aD (hK8 _ (aC (fun K9 hK9=>(aB (aE aA 3 rfl (aD (hK9 _ (aL rfl (fun hc2=>?_) (fun hc2=>?_))))))))))
   ·
    simp only[bs,jU,iC,List.length_cons,List.length_nil] at hc2
    refine aC (fun K10 hK10=>(aB (aE aA 2 rfl (aD (hK10 _ (aJ ?_))))))
    refine⟨_,rfl,?_⟩
    refine dM ?_
    rw[h2,aNe l k (by omega),if_pos (by assumption)]
   ·
    simp only[bs,jU,iC,List.length_cons,List.length_nil] at hc2
    refine aN (hK7 _ (aB ?_))
    refine aH rfl (bO rfl rfl (by omega) (by omega)) ?_
    refine aE aA 1 rfl (aD ?_)
    exact⟨k+1,⟨by omega,by rw[h2,aNe l k (by omega),if_neg (by simp_all)]⟩,by omega,cQ rfl⟩
  ·
   simp only[bs,jU,iC,List.length_cons,List.length_nil] at hc1
   refine bF (hK3 _ (aC (fun K11 hK11=>(aB (aE aA 2 rfl (aD (hK11 _ (aJ ?_))))))))
   refine⟨_,rfl,?_⟩
   refine dM ?_
   rw[h2,orI_end l k (by omega)]
end Go.Proofs.YtpkanhklapfajaaGreat.Nm
set_option linter.unusedVariables false
set_option linter.unusedSimpArgs false
namespace Go.Abs
open Go Go.RowKit
variable {P:Program} {n:Nat} {sl:List (Nat×AV)} {m:Mem} {d ty:Nat} {ps:String} {af:Array Edge} {gd:Option (Nat×Bool)}
theorem qF {a b:TypeId} {x:Operand} {k k':IntKind} {z z':Int} {D:TypeDesc} (hx:ev sl x=some (.s (.int k z))) (ha:P.underlying a=some D) (hb:P.underlying b=some (.int k')) (hz:k'.wrap z=z') :
    cH P ⟨some d,.convert a b x,ty,ps,af,gd⟩ ⟨n,sl,m⟩ (.s (.int k' z')):=by
  intro act w p hs _
  refine⟨.int k' z',?_,.s _⟩
  have e1:=oL hs (cR (n:=n) (m:=m) hx)
  simp [execOp,e1,Go.convert,run_underlying ha,run_underlying hb,Conv.intToInt,hz]
theorem aBw {t yt:TypeId} {x:Operand} {k:IntKind} {z z':Int} (hx:ev sl x=some (.s (.int k z))) (hz:z.fdiv 2=z') (h64:1<k.bits):cH P ⟨some d,.binOp .shr t x (.const (.int .u64 1)) yt,ty,ps,af,gd⟩ ⟨n,sl,m⟩ (.s (.int k z')):=by
  intro act w p hs _
  refine⟨.int k z',?_,.s _⟩
  have e1:=oL hs (cR (n:=n) (m:=m) hx)
  have e2:act.eval (.const (.int .u64 1))=.int .u64 1:=rfl
  have e3:min (1:Int).toNat k.bits=1:=by show min 1 k.bits=1; omega
  have e4:(binOp .shr t (.int k z) (.int .u64 1)).run P w=.ok (.int k z') w:=by
    show (Op.shift .shr k z .u64 1).run P w=_
    unfold Op.shift
    rw[if_neg (by omega)]
    simp only[e3]
    show Result.ok (Value.int k (z.fdiv (2 ^ 1))) w=_
    rw[show (2:Int) ^ 1=2 from rfl,hz]
  simp only[execOp,e1,e2]
  rw[Sem.run_bind]
  have e5:(eqGuard .shr t x (.const (.int .u64 1)) (.int k z) (.int .u64 1)).run P w=.ok () w:=by simp [eqGuard]
  simp [e5,e4]
theorem aCa {a b:Int} (ha:0≤a) (hb:a≤9223372036854775807) (e:b=a / 2):IntKind.u64.wrap a=a∧a.fdiv 2=b∧IntKind.i64.wrap b=b:=by
  subst e
  refine⟨?_,?_,?_⟩
  · unfold IntKind.wrap; simp [IntKind.signed,IntKind.bits]; omega
  · rw[Int.fdiv_eq_ediv_of_nonneg a (by omega)]
  · exact wrap_i64 (by omega) (by omega)
end Go.Abs
namespace Go.Abs
open Go Go.RowKit
variable {P:Program} {n:Nat} {sl:List (Nat×AV)} {m:Mem} {d ty:Nat} {ps:String} {af:Array Edge} {gd:Option (Nat×Bool)}
theorem aTt {t yt:TypeId} {x y:Operand} {a b r:Int} (hx:ev sl x=some (.s (.int .i64 a))) (hy:ev sl y=some (.s (.int .i64 b))) (hr:a*b=r) (h1:-9223372036854775808≤r) (h2:r≤9223372036854775807):cH P ⟨some d,.binOp .mul t x y yt,ty,ps,af,gd⟩ ⟨n,sl,m⟩ (.s (.int .i64 r)):=by
  subst hr
  exact fG hx hy (by simp [uW,aCh,wrap_i64 h1 h2])
end Go.Abs
set_option linter.unusedVariables false
set_option linter.unusedSimpArgs false
namespace Go.Abs
variable {α β:Type}
structure Tri (c:α→α→Int):Prop where
  rng:∀ x y,c x y=-1∨c x y=0∨c x y=1
  swap:∀ x y,c y x=- c x y
  tr:∀ x y z,c x y≤0→c y z≤0→c x z≤0
theorem Tri.self {c:α→α→Int} (h:Tri c) (x:α):c x x=0:=by have:=h.swap x x; omega
theorem Tri.lt_tr {c:α→α→Int} (h:Tri c) {x y z:α} (h1:c x y<0) (h2:c y z<0):c x z<0:=by
  have h3:=h.tr x y z (by omega) (by omega)
  rcases Int.lt_or_eq_of_le h3 with e | e
  · exact e
  · exfalso
    have:=h.tr y z x (by omega) (by have:=h.swap x z; omega)
    have:=h.swap x y
    omega
theorem Tri.lt_le {c:α→α→Int} (h:Tri c) {x y z:α} (h1:c x y<0) (h2:c y z≤0):c x z<0:=by
  have h3:=h.tr x y z (by omega) h2
  rcases Int.lt_or_eq_of_le h3 with e | e
  · exact e
  · exfalso
    have:=h.tr y z x h2 (by have:=h.swap x z; omega)
    have:=h.swap x y
    omega
theorem Tri.le_lt {c:α→α→Int} (h:Tri c) {x y z:α} (h1:c x y≤0) (h2:c y z<0):c x z<0:=by
  have h3:=h.tr x y z h1 (by omega)
  rcases Int.lt_or_eq_of_le h3 with e | e
  · exact e
  · exfalso
    have:=h.tr z x y (by have:=h.swap x z; omega) h1
    have:=h.swap y z
    omega
theorem Tri.comap {c:α→α→Int} (h:Tri c) (f:β→α):Tri (fun x y=>c (f x) (f y)) :=
  ⟨fun _ _=>h.rng _ _,fun _ _=>h.swap _ _,fun _ _ _=>h.tr _ _ _⟩
def wN (c d:α→α→Int) (x y:α):Int:=if c x y≠0 then c x y else d x y
theorem Tri.lex {c d:α→α→Int} (hc:Tri c) (hd:Tri d):Tri (wN c d):=by
  refine⟨fun x y=>?_,fun x y=>?_,fun x y z=>?_⟩
  · unfold wN; split
    · exact hc.rng x y
    · exact hd.rng x y
  · have h1:=hc.swap x y; have h2:=hd.swap x y
    unfold wN
    split <;> split <;> omega
  · intro h1 h2
    unfold wN at *
    have:=hc.tr x y z
    have:=@Tri.lt_le _ _ hc x y z
    have:=@Tri.le_lt _ _ hc x y z
    have:=hd.tr x y z
    split at h1 <;> split at h2 <;> split <;> omega
theorem tO {c d:α→α→Int} {x y:α}:wN c d x y=0↔c x y=0∧d x y=0:=by
  unfold wN; split <;> omega
def nP (ok:α→Bool) (nx:α→α→Bool):Option α→List α→Bool
  | _,[]=>true
  | none,x::r=>ok x&&nP ok nx (some x) r
  | some y,x::r=>(ok x&&nx y x)&&nP ok nx (some x) r
def iV (l:List α) (k:Nat):Option α:=if k=0 then none else l[k - 1]?
theorem aFo (ok:α→Bool) (nx:α→α→Bool) (l:List α) (k:Nat) (h:k<l.length) (h0:0<k) :
    nP ok nx (iV l k) (l.drop k)=((ok l[k]&&nx (l[k - 1]'(by omega)) l[k])&&nP ok nx (iV l (k+1)) (l.drop (k+1))):=by
  rw[List.drop_eq_getElem_cons h,iV,if_neg (by omega),iV,if_neg (by omega),List.getElem?_eq_getElem (by omega),show k+1 - 1=k from by omega,List.getElem?_eq_getElem h]
  rfl
theorem aI1 (ok:α→Bool) (nx:α→α→Bool) (l:List α) (h:0<l.length) :
    nP ok nx (iV l 0) (l.drop 0)=(ok l[0]&&nP ok nx (iV l 1) (l.drop 1)):=by
  rw[List.drop_eq_getElem_cons h,iV,if_pos rfl,iV,if_neg (by omega),List.getElem?_eq_getElem (by omega)]
  rfl
theorem ris_end (ok:α→Bool) (nx:α→α→Bool) (l:List α) (k:Nat) (h:l.length≤k):nP ok nx (iV l k) (l.drop k)=true:=by
  rw[List.drop_eq_nil_of_le h]; cases iV l k <;> rfl
theorem fM {ok:α→Bool} {nx:α→α→Bool} {l:List α} {k:Nat} {b:Bool} (h:b=nP ok nx (iV l k) (l.drop k)) (hk:k<l.length) (ho:ok l[k]=false):b=false:=by
  rw[h]
  by_cases h0:k=0
  · subst h0; rw[aI1 ok nx l hk,ho]; rfl
  · rw[aFo ok nx l k hk (by omega),ho]; rfl
theorem fV {ok:α→Bool} {nx:α→α→Bool} {l:List α} {k:Nat} {b:Bool} (h:b=nP ok nx (iV l k) (l.drop k)) (hk:k<l.length) (h0:0<k) (hn:nx (l[k - 1]'(by omega)) l[k]=false):b=false:=by
  rw[h,aFo ok nx l k hk h0,hn,Bool.and_false,Bool.false_and]
theorem gF {ok:α→Bool} {nx:α→α→Bool} {l:List α} {k:Nat} {b:Bool} (h:b=nP ok nx (iV l k) (l.drop k)) (hk:k<l.length) (ho:ok l[k]=true) (hn:∀ h0:0<k,nx (l[k - 1]'(by omega)) l[k]=true):b=nP ok nx (iV l (k+1)) (l.drop (k+1)):=by
  rw[h]
  by_cases h0:k=0
  · subst h0; rw[aI1 ok nx l hk,ho]; rfl
  · rw[aFo ok nx l k hk (by omega),ho,hn (by omega)]; rfl
theorem pP {ok:α→Bool} {nx:α→α→Bool} {l:List α} {k:Nat} {b:Bool} (h:b=nP ok nx (iV l k) (l.drop k)) (hk:l.length≤k):b=true:=by rw[h,ris_end ok nx l k hk]
theorem tH {ok:α→Bool} {nx:α→α→Bool} (R:α→α→Prop) (h1:∀ x y,nx x y=true↔R x y) (h2:∀ x y z,ok y=true→R x y→R y z→R x z) :
    ∀ (l:List α) (p:Option α),nP ok nx p l=true↔((∀ x∈l,ok x=true)∧l.Pairwise R∧∀ y,p=some y→∀ x∈l,R y x)
  | [],p=>by cases p <;> simp [nP]
  | x::r,none=>by
    simp only[nP,Bool.and_eq_true]
    rw[tH R h1 h2 r (some x)]
    simp only[List.mem_cons,forall_eq_or_imp,List.pairwise_cons,Option.some.injEq,forall_eq',reduceCtorEq,false_implies,implies_true,and_true]
    constructor
    · rintro ⟨a,b,c,d⟩; exact⟨⟨a,b⟩,d,c⟩
    · rintro ⟨⟨a,b⟩,d,c⟩; exact⟨a,b,c,d⟩
  | x::r,some y=>by
    simp only[nP,Bool.and_eq_true]
    rw[tH R h1 h2 r (some x),h1]
    simp only[List.mem_cons,forall_eq_or_imp,List.pairwise_cons,Option.some.injEq,forall_eq']
    constructor
    · rintro ⟨⟨a,e⟩,b,c,d⟩; exact⟨⟨a,b⟩,⟨d,c⟩,e,fun z hz=>h2 y x z a e (d z hz)⟩
    · rintro ⟨⟨a,b⟩,⟨d,c⟩,e,f⟩; exact⟨⟨a,e⟩,b,c,d⟩
end Go.Abs
namespace Go.Abs
variable {α:Type} {enc:α→List AV}
theorem aXr {q:α→Bool} {l:List α} {k:Nat} (hk:k<l.length) (h:q l[k]=true):(l.take (k+1)).filter q=(l.take k).filter q++[l[k]]:=by
  rw[lG l q k hk,if_pos h]
theorem aXs {q:α→Bool} {l:List α} {k:Nat} (hk:k<l.length) (h:q l[k]=false):(l.take (k+1)).filter q=(l.take k).filter q:=by
  rw[lG l q k hk,if_neg (by simp [h]),List.append_nil]
theorem pO {l:List α} {k:Nat} (h:k≤l.length):((l.map enc).take ((k:Nat):Int).toNat).drop 0=(l.take k).map enc:=by
  simp [List.map_take]
theorem lH {l:List α} {k:Nat} (h:k≤l.length):((l.map enc).take (l.map enc).length).drop ((k:Nat):Int).toNat=(l.drop k).map enc:=by
  rw[Int.toNat_natCast,List.map_drop,List.take_of_length_le (Nat.le_refl _)]
end Go.Abs
set_option linter.unusedVariables false
set_option linter.unusedSimpArgs false
namespace Go.Abs
variable {α:Type} {enc:α→List AV} {c:α→α→Int}
-- cells of a slice,told by what stands there
theorem dX {l:List α} {k i z:Nat} {x:α} (hi:i=z) (h:l[z]?=some x) (hc:(enc x).length=k):((AM.buf k (l.map enc)).at k i 0).take k=enc x:=by
  obtain ⟨hz,rfl⟩:=List.getElem?_eq_some_iff.1 h
  exact nV hi hz hc
theorem fA {l:List α} {k i z:Nat} {x:α} (hi:i=z) (h:l[z]?=some x) (hc:(enc x).length=k):Nat.ble k ((AM.buf k (l.map enc)).at k i 0).length=true:=by
  obtain ⟨hz,rfl⟩:=List.getElem?_eq_some_iff.1 h
  exact qK hi hz hc
theorem fP {l:List α} {k i z:Nat} {v:α} {rs:List AV} (hi:i=z) (h:z<l.length) (hr:rs=enc v) (hv:(enc v).length=k) (hl:(enc l[z]).length=k):(AM.buf k (l.map enc)).store k i 0 rs=some (.buf k ((l.set z v).map enc)):=by
  subst hr
  exact iS hi h (by simp [splice,hv,hl]) (by omega)
def Srt (c:α→α→Int) (l:List α):Prop:=l.Pairwise fun x y=>c x y≤0
theorem at0 {p q:List α} {x:α}:(p++x::q)[p.length]?=some x:=by simp
theorem atQ {l p q:List α} {x:α} {z:Nat} (h:l=p++x::q) (hz:z=p.length):l[z]?=some x:=by subst h; subst hz; exact at0
theorem xR {l p q:List α} {x y:α} {i j:Nat} (h:l=p++x::y::q) (hi:i=p.length+1) (hj:j=p.length):(l.set i x).set j y=p++y::x::q:=by
  subst h; subst hi; subst hj; simp
theorem aTh {l p q:List α} {x y:α} {i j:Nat} (h:l=p++x::y::q) (hi:i=p.length) (hj:j=p.length+1):(l.set i y).set j x=p++y::x::q:=by
  subst h; subst hi; subst hj; simp
theorem Srt.append {a b:List α} (ha:Srt c a) (hb:Srt c b) (h:∀ x∈a,∀ y∈b,c x y≤0):Srt c (a++b):=List.pairwise_append.2 ⟨ha,hb,h⟩
theorem Srt.left {a b:List α} (h:Srt c (a++b)):Srt c a:=(List.pairwise_append.1 h).1
theorem Srt.right {a b:List α} (h:Srt c (a++b)):Srt c b:=(List.pairwise_append.1 h).2.1
theorem aGc (hc:Tri c) {u v:List α} {e:α} (h:Srt c (u++v)) (hv:∀ y∈v,c e y≤0) (hu:∀ z,u.getLast?=some z→c z e≤0):Srt c (u++e::v):=by
  obtain ⟨h1,h2,h3⟩:=List.pairwise_append.1 h
  refine Srt.append h1 (List.pairwise_cons.2 ⟨hv,h2⟩) fun x hx y hy=>?_
  rcases List.mem_cons.1 hy with rfl | hy
  · rcases List.eq_nil_or_concat u with rfl | ⟨u',z,rfl⟩
    · simp at hx
    · have hz:=hu z (by simp)
      rw[List.concat_eq_append] at hx h1
      rcases List.mem_append.1 hx with hx | hx
      · exact hc.tr x z y ((List.pairwise_append.1 h1).2.2 x hx z (by simp)) hz
      · simp only[List.mem_singleton] at hx; subst hx; exact hz
  · exact h3 x hx y hy
theorem aWq {l:List α} (h:Srt c l) (hc:Tri c) {i j:Nat} (hi:i<l.length) (hj:j<l.length) (hij:i≤j):c l[i] l[j]≤0:=by
  rcases Nat.lt_or_eq_of_le hij with e | rfl
  · exact List.pairwise_iff_getElem.1 h i j hi hj e
  · have:=hc.self l[i]; omega
theorem aAa {l:List α} (h:Srt c l) (hc:Tri c) {k:Nat} (hk:k<l.length):(∀ x∈l.take (k+1),c x l[k]≤0)∧∀ x∈l.drop k,c l[k] x≤0:=by
  refine⟨fun x hx=>?_,fun x hx=>?_⟩
  · obtain ⟨i,hi,rfl⟩:=List.mem_iff_getElem.1 hx
    simp only[List.length_take] at hi
    rw[List.getElem_take]
    exact aWq h hc _ hk (by omega)
  · obtain ⟨i,hi,rfl⟩:=List.mem_iff_getElem.1 hx
    simp only[List.length_drop] at hi
    rw[List.getElem_drop]
    exact aWq h hc hk _ (by omega)
theorem put_srt (hc:Tri c) {s:List α} {x:α} {i:Nat} (h:Srt c s) (hi:i≤s.length) (h1:∀ h0:0<i,c (s[i - 1]'(by omega)) x≤0) (h2:∀ h0:i<s.length,c x s[i]≤0):Srt c (s.take i++x::s.drop i):=by
  refine aGc hc (by rw[List.take_append_drop]; exact h) (fun y hy=>?_) (fun z hz=>?_)
  · by_cases h0:i<s.length
    · exact hc.tr x s[i] y (h2 h0) ((aAa h hc h0).2 y hy)
    · rw[List.drop_eq_nil_of_le (by omega)] at hy; simp at hy
  · rcases Nat.eq_zero_or_pos i with rfl | h0
    · simp at hz
    · have:(s.take i).getLast?=some (s[i - 1]'(by omega)):=by
        rw[List.getLast?_eq_getElem?,List.length_take,List.getElem?_take,if_pos (by omega),Nat.min_eq_left hi,List.getElem?_eq_getElem]
      rw[this] at hz; cases hz
      exact h1 h0
theorem sym_sep (hc:Tri c) {s1 s2:List α} {S K:Nat} (h1:Srt c s1) (h2:Srt c s2) (hS:S≤s1.length) (hK:K≤s2.length)
    (hA:∀ (h0:0<S) (h3:K<s2.length),c (s1[S - 1]'(by omega)) s2[K]≤0) (hB:∀ (h0:0<K) (h3:S<s1.length),c (s2[K - 1]'(by omega)) s1[S]≤0) :
    ∀ x∈s1.take S++s2.take K,∀ y∈s1.drop S++s2.drop K,c x y≤0:=by
  have e1:Srt c (s1.take S++s1.drop S):=by rw[List.take_append_drop]; exact h1
  have e2:Srt c (s2.take K++s2.drop K):=by rw[List.take_append_drop]; exact h2
  intro x hx y hy
  rcases List.mem_append.1 hx with hx | hx <;> rcases List.mem_append.1 hy with hy | hy
  · exact(List.pairwise_append.1 e1).2.2 x hx y hy
  · rcases Nat.eq_zero_or_pos S with rfl | h0
    · simp at hx
    · by_cases h3:K<s2.length
      · have q1:=(aAa h1 hc (show S - 1<s1.length by omega)).1 x (by rw[show S - 1+1=S by omega]; exact hx)
        exact hc.tr _ _ _ (hc.tr _ _ _ q1 (hA h0 h3)) ((aAa h2 hc h3).2 y hy)
      · rw[List.drop_eq_nil_of_le (by omega)] at hy; simp at hy
  · rcases Nat.eq_zero_or_pos K with rfl | h0
    · simp at hx
    · by_cases h3:S<s1.length
      · have q1:=(aAa h2 hc (show K - 1<s2.length by omega)).1 x (by rw[show K - 1+1=K by omega]; exact hx)
        exact hc.tr _ _ _ (hc.tr _ _ _ q1 (hB h0 h3)) ((aAa h1 hc h3).2 y hy)
      · rw[List.drop_eq_nil_of_le (by omega)] at hy; simp at hy
  · exact(List.pairwise_append.1 e2).2.2 x hx y hy
theorem Srt.take {l:List α} (h:Srt c l) (k:Nat):Srt c (l.take k):=Srt.left (b:=l.drop k) (by rw[List.take_append_drop]; exact h)
theorem Srt.drop {l:List α} (h:Srt c l) (k:Nat):Srt c (l.drop k):=Srt.right (a:=l.take k) (by rw[List.take_append_drop]; exact h)
theorem aFg {a b a' b':List α} (ha:a'.Perm a) (hb:b'.Perm b) (h:∀ x∈a,∀ y∈b,c x y≤0):∀ x∈a',∀ y∈b',c x y≤0 :=
  fun x hx y hy=>h x (ha.mem_iff.1 hx) y (hb.mem_iff.1 hy)
theorem wR {s1 s2 l r:List α} {S K:Nat} (hl:l.Perm (s1.take S++s2.take K)) (hr:r.Perm (s1.drop S++s2.drop K)):(l++r).Perm (s1++s2):=by
  refine(hl.append hr).trans ?_
  have e:(s1++s2).Perm ((s1.take S++s1.drop S)++(s2.take K++s2.drop K)):=by rw[List.take_append_drop,List.take_append_drop]
  refine List.Perm.trans ?_ e.symm
  rw[List.append_assoc,List.append_assoc]
  refine List.Perm.append_left _ ?_
  rw[← List.append_assoc,← List.append_assoc]
  exact List.Perm.append_right _ List.perm_append_comm
inductive Fu (c:α→α→Int) (k:Nat):List α→Prop
  | nil:Fu c k []
  | cons {d s:List α} (h:Fu c k d) (hs:Srt c s) (hl:s.length=k):Fu c k (d++s)
inductive Ch (c:α→α→Int) (k:Nat):List α→Prop
  | last {s:List α} (hs:Srt c s) (hl:s.length≤k):Ch c k s
  | cons {s r:List α} (hs:Srt c s) (hl:s.length=k) (h:Ch c k r):Ch c k (s++r)
theorem Fu.ch {k:Nat} {d:List α} (h:Fu c k d):∀ {r:List α},Ch c k r→Ch c k (d++r):=by
  induction h with
  | nil=>intro r hr; exact hr
  | cons h hs hl ih=>intro r hr; rw[List.append_assoc]; exact ih (.cons hs hl hr)
theorem Ch.split {k:Nat} {l:List α} (h:Ch c k l) (hl:k<l.length):∃ s r,l=s++r∧Srt c s∧s.length=k∧Ch c k r:=by
  cases h with
  | last hs h1=>omega
  | cons hs h1 h2=>exact⟨_,_,rfl,hs,h1,h2⟩
theorem Ch.short {k:Nat} {l:List α} (h:Ch c k l) (hl:l.length≤k):Srt c l:=by
  cases h with
  | last hs h1=>exact hs
  | @cons s r hs h1 h2 =>
    have:r=[]:=by
      rw[List.length_append] at hl
      exact List.eq_nil_of_length_eq_zero (by omega)
    rw[this,List.append_nil]; exact hs
theorem Ch.two {k:Nat} {l:List α} (h:Ch c k l) (hl:k<l.length):∃ s t r,l=s++(t++r)∧Srt c s∧s.length=k∧Srt c t∧0<t.length∧((t.length=k∧Ch c k r)∨(t.length≤k∧r=[])):=by
  obtain ⟨s,r,rfl,hs,h1,h2⟩:=h.split hl
  rw[List.length_append] at hl
  cases h2 with
  | last ht h3=>exact⟨s,r,[],by simp,hs,h1,ht,by omega,.inr ⟨h3,rfl⟩⟩
  | @cons t r' ht h3 h4 =>
    rcases Nat.eq_zero_or_pos k with rfl | h0
    · have:t=[]:=List.eq_nil_of_length_eq_zero h3
      subst this
      simp only[List.nil_append] at hl ⊢
      exact⟨s,r',[],by simp,hs,h1,(h4.short (by
        exfalso
        revert hl
        have:∀ l:List α,Ch c 0 l→l.length=0:=by
          intro l hl
          induction hl with
          | last hs hl=>omega
          | cons hs hl h ih=>rw[List.length_append,hl,ih]
        have:=this r' h4
        omega)),by omega,.inr ⟨by
        have:∀ l:List α,Ch c 0 l→l.length=0:=by
          intro l hl
          induction hl with
          | last hs hl=>omega
          | cons hs hl h ih=>rw[List.length_append,hl,ih]
        rw[this r' h4]; exact Nat.zero_le _,rfl⟩⟩
    · exact⟨s,t,r',rfl,hs,h1,ht,by omega,.inl ⟨h3,h4⟩⟩
end Go.Abs
namespace Go.Abs
variable {α:Type} {enc:α→List AV} {c:α→α→Int}
def swr (A u B v C:List α) (i:Nat):List α:=A++((v.take i++u.drop i)++(B++((u.take i++v.drop i)++C)))
theorem swr_len {A u B v C:List α} {i:Nat} (h:v.length=u.length):(swr A u B v C i).length=A.length+u.length+B.length+v.length+C.length:=by
  simp only[swr,List.length_append,List.length_take,List.length_drop]; omega
theorem aBm {A u B v C:List α} {i:Nat} (h:v.length=u.length) (hi:i<u.length) :
    swr A u B v C i=(A++v.take i)++u[i]::((u.drop (i+1)++B++u.take i)++(v[i]'(by omega))::(v.drop (i+1)++C)):=by
  rw[swr,List.drop_eq_getElem_cons hi,List.drop_eq_getElem_cons (show i<v.length by omega)]; simp only[List.append_assoc,List.cons_append]
theorem aEn {A u B v C:List α} {i:Nat} (h:v.length=u.length) (hi:i<u.length):(swr A u B v C i)[A.length+i]?=some u[i]:=by
  rw[aBm h hi]
  exact atQ rfl (by simp; omega)
theorem aEm {A u B v C:List α} {i:Nat} (h:v.length=u.length) (hi:i<u.length):(swr A u B v C i)[A.length+u.length+B.length+i]?=some (v[i]'(by omega)):=by
  rw[aBm h hi]
  exact atQ (p:=(A++v.take i)++u[i]::(u.drop (i+1)++B++u.take i)) (q:=v.drop (i+1)++C) (by simp) (by simp; omega)
theorem aWv {p q:List α} {x y:α} {i:Nat} (hi:i=p.length):(p++x::q).set i y=p++y::q:=by subst hi; simp
theorem aMl {A u B v C:List α} {i:Nat} (h:v.length=u.length) (hi:i<u.length):((swr A u B v C i).set (A.length+i) (v[i]'(by omega))).set (A.length+u.length+B.length+i) u[i]=swr A u B v C (i+1):=by
  rw[aBm h hi,aWv (by simp; omega)]
  rw[show (A++v.take i)++(v[i]'(by omega))::((u.drop (i+1)++B++u.take i)++(v[i]'(by omega))::(v.drop (i+1)++C))=((A++v.take i)++(v[i]'(by omega))::(u.drop (i+1)++B++u.take i))++(v[i]'(by omega))::(v.drop (i+1)++C) from by simp]
  rw[aWv (by simp; omega),swr,← List.take_append_getElem hi,← List.take_append_getElem (show i<v.length by omega)]
  simp only[List.append_assoc,List.cons_append,List.nil_append]
theorem srt_one {l:List α} (h:l.length≤1):Srt c l:=by
  match l,h with
  | [],_=>exact List.Pairwise.nil
  | [x],_=>exact List.pairwise_singleton _ _
theorem last_of {u:List α} (h:0<u.length):∃ u' z,u=u'++[z]:=by
  rcases List.eq_nil_or_concat u with rfl | ⟨u',z,rfl⟩
  · simp at h
  · exact⟨u',z,by simp⟩
theorem aQ {x y:Int} (h:x=y):(some (AV.s (.int .i64 x)):Option AV)=some (AV.s (.int .i64 y)):=by rw[h]
end Go.Abs
namespace Go.Abs
variable {α:Type} {enc:α→List AV} {c:α→α→Int}
theorem aNu {u v s3 s1 s0:List α} {e:α} (huv:u++v=s1) (h:(s1++e::s3).Perm s0):((u++e::v)++s3).Perm s0:=by
  refine List.Perm.trans ?_ h
  subst huv
  rw[List.append_assoc,List.append_assoc]
  exact List.Perm.append_left u List.perm_middle.symm
theorem atM {p s1 s2 q:List α} {h:Nat} (hh:h<s2.length):(p++(s1++(s2++q)))[p.length+s1.length+h]?=some s2[h]:=by
  rw[List.getElem?_append_right (by omega),List.getElem?_append_right (by omega),List.getElem?_append_left (by omega),List.getElem?_eq_getElem (by omega)]
  congr 2; omega
theorem atL {p s1 r:List α} {h:Nat} (hh:h<s1.length):(p++(s1++r))[p.length+h]?=some s1[h]:=by
  rw[List.getElem?_append_right (by omega),List.getElem?_append_left (by omega),List.getElem?_eq_getElem (by omega)]
  congr 2; omega
theorem aMk {p s1 s2 q:List α} {S K:Nat} (h:s1.length≤S∨K=0):p++(s1++(s2++q))=p++((s1.take S++s2.take K)++((s1.drop S++s2.drop K)++q)):=by
  rcases h with h | rfl
  · rw[List.take_of_length_le h,List.drop_eq_nil_of_le h,List.nil_append,List.append_assoc,← List.append_assoc (s2.take K),List.take_append_drop]
  · rw[List.take_zero,List.drop_zero,List.append_nil,List.append_assoc,← List.append_assoc (s1.take S),List.take_append_drop]
theorem aWn {p s1 s2 q:List α} (S K:Nat):p++(s1++(s2++q))=(p++s1.take S)++(s1.drop S++(s2.take K++(s2.drop K++q))):=by
  rw[List.append_assoc,← List.append_assoc (s1.take S),List.take_append_drop,← List.append_assoc (s2.take K),List.take_append_drop]
theorem aMo {s1 s2:List α} {S K:Nat} (h1:Srt c s1) (h2:Srt c s2) (h:S=0∨K=0):Srt c (s1.take S++s2.take K):=by
  rcases h with rfl | rfl
  · rw[List.take_zero,List.nil_append]; exact h2.take K
  · rw[List.take_zero,List.append_nil]; exact h1.take S
theorem aIw {s1 s2:List α} {S K:Nat} (h1:Srt c s1) (h2:Srt c s2) (h:s1.length≤S∨s2.length≤K):Srt c (s1.drop S++s2.drop K):=by
  rcases h with h | h
  · rw[List.drop_eq_nil_of_le h,List.nil_append]; exact h2.drop K
  · rw[List.drop_eq_nil_of_le h,List.append_nil]; exact h1.drop S
theorem put_perm {s:List α} {x:α} {i:Nat}:(s.take i++x::s.drop i).Perm (x::s):=by
  refine List.perm_middle.trans ?_
  rw[List.take_append_drop]
theorem aM7 (hc:Tri c) {s:List α} {x:α} {i:Nat} (h:Srt c s) (hi:i≤s.length) (h1:∀ z,s[i - 1]?=some z→0<i→c z x≤0) (h2:∀ z,s[i]?=some z→c x z≤0):Srt c (s.take i++x::s.drop i) :=
  put_srt hc h hi (fun h0=>h1 _ (List.getElem?_eq_getElem (by omega)) h0) (fun h0=>h2 _ (List.getElem?_eq_getElem h0))
theorem Ch.pair {k:Nat} {l:List α} (h:Ch c k l) (h0:0<k) (hl:2*k≤l.length):∃ s t r,l=s++(t++r)∧Srt c s∧s.length=k∧Srt c t∧t.length=k∧Ch c k r:=by
  obtain ⟨s,t,r,rfl,h1,h2,h3,h4,h5⟩:=h.two (by omega)
  simp only[List.length_append] at hl
  rcases h5 with ⟨h5,h6⟩ | ⟨h5,rfl⟩
  · exact⟨s,t,r,rfl,h1,h2,h3,h5,h6⟩
  · simp only[List.length_nil] at hl
    exact⟨s,t,[],rfl,h1,h2,h3,by omega,.last List.Pairwise.nil (by simp)⟩
theorem Ch.rest {k:Nat} {l:List α} (h:Ch c k l) (hl:k<l.length) (hl2:l.length<2*k):∃ s t,l=s++t∧Srt c s∧s.length=k∧Srt c t∧0<t.length:=by
  obtain ⟨s,t,r,rfl,h1,h2,h3,h4,h5⟩:=h.two hl
  simp only[List.length_append] at hl2
  rcases h5 with ⟨h5,h6⟩ | ⟨h5,rfl⟩
  · omega
  · exact⟨s,t,by simp,h1,h2,h3,h4⟩
end Go.Abs
namespace Go.Abs
abbrev Sp:=Int×Int
def eB (l:List Sp) (t:Int):Bool:=l.any fun s=>decide (s.1≤t)&&decide (t<s.2)
theorem fN {l:List Sp} {t:Int}:eB l t=true↔∃ s∈l,s.1≤t∧t<s.2:=by
  simp [eB]
theorem pX (a b:List Sp) (t:Int):eB (a++b) t=(eB a t||eB b t):=by simp [eB]
theorem kX (s:Sp) (l:List Sp) (t:Int):eB (s::l) t=((decide (s.1≤t)&&decide (t<s.2))||eB l t):=rfl
theorem mM (t:Int):eB [] t=false:=rfl
theorem aK6 {a b:List Sp} {t:Int} (h:(∃ s∈a,s.1≤t∧t<s.2)↔(∃ s∈b,s.1≤t∧t<s.2)):eB a t=eB b t:=by
  rw[Bool.eq_iff_iff,fN,fN]; exact h
def jQ (l:List Sp):Prop:=(∀ s∈l,s.1<s.2)∧l.Pairwise (fun a b=>a.2<b.1)
theorem aB0 {x:Sp} {l:List Sp} (h:jQ (x::l)):jQ l:=⟨fun s hs=>h.1 s (by simp [hs]),(List.pairwise_cons.1 h.2).2⟩
theorem kW {x:Sp} {l:List Sp} (h:jQ (x::l)):x.1<x.2∧∀ s∈l,x.2<s.1:=⟨h.1 x (by simp),(List.pairwise_cons.1 h.2).1⟩
theorem aNi {x:Sp} {l:List Sp} (h:jQ (x::l)) {t:Int} (ht:eB (x::l) t=true):x.1≤t:=by
  obtain ⟨s,hs,h1,h2⟩:=fN.1 ht
  rcases List.mem_cons.1 hs with rfl | hs
  · exact h1
  · have:=(kW h).2 s hs
    have:=(kW h).1
    omega
theorem nY:∀ (a b:List Sp),jQ a→jQ b→(∀ t,eB a t=eB b t)→a=b
  | [],[],_,_,_=>rfl
  | [],y::ys,_,hb,h=>by
    have h1:=h y.1
    have h2:eB (y::ys) y.1=true:=fN.2 ⟨y,by simp,Int.le_refl _,(kW hb).1⟩
    rw[h2] at h1
    cases h1
  | x::xs,[],ha,_,h=>by
    have h1:=h x.1
    have h2:eB (x::xs) x.1=true:=fN.2 ⟨x,by simp,Int.le_refl _,(kW ha).1⟩
    rw[h2] at h1
    cases h1
  | x::xs,y::ys,ha,hb,h=>by
    have hx:eB (x::xs) x.1=true:=fN.2 ⟨x,by simp,Int.le_refl _,(kW ha).1⟩
    have hy:eB (y::ys) y.1=true:=fN.2 ⟨y,by simp,Int.le_refl _,(kW hb).1⟩
    have e1:x.1=y.1:=by
      have h1:=aNi hb (by rw[← h]; exact hx)
      have h2:=aNi ha (by rw[h]; exact hy)
      omega
    have key:∀ (x y:Sp) (xs ys:List Sp),jQ (x::xs)→jQ (y::ys)→x.1=y.1→(∀ t,eB (x::xs) t=eB (y::ys) t)→¬ x.2<y.2:=by
      intro x y xs ys ha hb e h hlt
      have h1:=(kW ha).1
      have h2:eB (y::ys) x.2=true:=fN.2 ⟨y,by simp,by omega,hlt⟩
      rw[← h] at h2
      obtain ⟨s,hs,h3,h4⟩:=fN.1 h2
      rcases List.mem_cons.1 hs with rfl | hs
      · omega
      · have:=(kW ha).2 s hs
        omega
    have e2:x.2=y.2:=by
      have h1:=key x y xs ys ha hb e1 h
      have h2:=key y x ys xs hb ha e1.symm (fun t=>(h t).symm)
      omega
    have exy:x=y:=Prod.ext e1 e2
    subst exy
    refine congrArg (x::·) (nY xs ys (aB0 ha) (aB0 hb) fun t=>?_)
    have low:∀ l,jQ (x::l)→t<x.2→eB l t=false:=by
      intro l hl ht
      cases hq:eB l t with
      | false=>rfl
      | true =>
        obtain ⟨s,hs,h3,h4⟩:=fN.1 hq
        have:=(kW hl).2 s hs
        omega
    by_cases ht:t<x.2
    · rw[low xs ha ht,low ys hb ht]
    · have:=h t
      simpa [kX,ht] using this
def dU (out:List Sp) (s:Sp):List Sp:=match out.getLast? with
  | some x=>if x.2=s.1 then out.dropLast++[(x.1,s.2)] else out++[s]
  | none=>[s]
def gG (p:Int→Bool):List Sp→List Int→List Sp
  | out,a::b::r=>gG p (if p a=true then dU out (a,b) else out) (b::r)
  | out,_=>out
def inP (p:Int→Bool):List Int→Int→Bool
  | a::b::r,t=>(p a&&decide (a≤t)&&decide (t<b))||inP p (b::r) t
  | _,_=>false
def tZ (e:List Int):Prop:=e.Pairwise (·<·)
theorem glue_ok {out:List Sp} {a b:Int} (h:jQ out) (ha:∀ s∈out,s.2≤a) (hab:a<b) :
    jQ (dU out (a,b))∧(∀ s∈dU out (a,b),s.2≤b)∧∀ t,eB (dU out (a,b)) t=(eB out t||(decide (a≤t)&&decide (t<b))):=by
  rcases List.eq_nil_or_concat out with rfl | ⟨i,x,rfl⟩
  · refine⟨⟨by simp [dU]; exact hab,by simp [dU]⟩,by simp [dU],fun t=>by simp [dU,eB]⟩
  · rw[List.concat_eq_append] at *
    have hx1:=h.1 x (by simp)
    have hx2:=ha x (by simp)
    have hp:=List.pairwise_append.1 h.2
    simp only[dU,List.getLast?_append,List.getLast?_singleton,Option.some_or,List.dropLast_concat]
    split
    · rename_i e
      refine⟨⟨fun s hs=>?_,?_⟩,fun s hs=>?_,fun t=>?_⟩
      · rcases List.mem_append.1 hs with hs | hs
        · exact h.1 s (by simp [hs])
        · simp at hs; subst hs; simp only; omega
      · refine List.pairwise_append.2 ⟨hp.1,by simp,fun s hs y hy=>?_⟩
        simp at hy; subst hy
        exact hp.2.2 s hs x (by simp)
      · rcases List.mem_append.1 hs with hs | hs
        · have:=ha s (by simp [hs]); omega
        · simp at hs; subst hs; simp
      · simp only[pX,kX,mM,Bool.or_false,Bool.or_assoc]
        congr 1
        rw[Bool.eq_iff_iff]
        simp
        omega
    · refine⟨⟨fun s hs=>?_,?_⟩,fun s hs=>?_,fun t=>?_⟩
      · rcases List.mem_append.1 hs with hs | hs
        · exact h.1 s hs
        · simp at hs; subst hs; exact hab
      · refine List.pairwise_append.2 ⟨h.2,by simp,fun s hs y hy=>?_⟩
        simp at hy; subst hy
        rename_i hne
        rcases List.mem_append.1 hs with hs | hs
        · have:=hp.2.2 s hs x (by simp); omega
        · simp at hs; subst hs; omega
      · rcases List.mem_append.1 hs with hs | hs
        · have:=ha s hs; omega
        · simp at hs; subst hs; simp
      · simp [pX,kX,mM,Bool.or_assoc]
theorem aBv (p:Int→Bool):∀ (e:List Int) (out:List Sp),tZ e→jQ out→(∀ a,e.head?=some a→∀ s∈out,s.2≤a) →
    jQ (gG p out e)∧∀ t,eB (gG p out e) t=(eB out t||inP p e t)
  | [],out,_,h,_=>⟨h,fun t=>by simp [gG,inP]⟩
  | [a],out,_,h,_=>⟨h,fun t=>by simp [gG,inP]⟩
  | a::b::r,out,he,h,ha=>by
    have hab:a<b:=(List.pairwise_cons.1 he).1 b (by simp)
    have hr:tZ (b::r):=(List.pairwise_cons.1 he).2
    have ha':=ha a rfl
    simp only[gG,inP]
    by_cases hp:p a=true
    · rw[if_pos hp]
      obtain ⟨g1,g2,g3⟩:=glue_ok h ha' hab
      obtain ⟨i1,i2⟩:=aBv p (b::r) (dU out (a,b)) hr g1 (fun c hc s hs=>by cases hc; exact g2 s hs)
      refine⟨i1,fun t=>?_⟩
      rw[i2,g3,hp]
      simp [Bool.or_assoc]
    · rw[if_neg hp]
      obtain ⟨i1,i2⟩:=aBv p (b::r) out hr h (fun c hc s hs=>by cases hc; have:=ha' s hs; omega)
      refine⟨i1,fun t=>?_⟩
      rw[i2]
      simp [hp]
theorem aK4 (p:Int→Bool):∀ (e:List Int) (t:Int),tZ e→(∀ a,e.head?=some a→t<a)→inP p e t=false
  | [],t,_,_=>rfl
  | [a],t,_,_=>rfl
  | a::b::r,t,he,h=>by
    have hab:a<b:=(List.pairwise_cons.1 he).1 b (by simp)
    have ht:t<a:=h a rfl
    simp only[inP]
    rw[aK4 p (b::r) t (List.pairwise_cons.1 he).2 (fun c hc=>by cases hc; omega)]
    have:¬ a≤t:=by omega
    simp [this]
theorem aXk (p:Int→Bool):∀ (r:List Int) (a:Int),tZ (a::r)→(∀ t t',a≤t→t≤t'→(∀ x∈r,¬ (t<x∧x≤t'))→p t=p t')→(∀ t,(∀ x∈a::r,x≤t)→p t=false) →
    ∀ t,a≤t→inP p (a::r) t=p t
  | [],a,_,_,h2,t,ht=>by rw[h2 t (by simpa using ht)]; rfl
  | b::r,a,he,h1,h2,t,ht=>by
    have hab:a<b:=(List.pairwise_cons.1 he).1 b (by simp)
    have hr:tZ (b::r):=(List.pairwise_cons.1 he).2
    simp only[inP]
    by_cases htb:t<b
    · rw[aK4 p (b::r) t hr (fun c hc=>by cases hc; exact htb)]
      have:p a=p t:=h1 a t (Int.le_refl _) ht (fun x hx h=>by
        rcases List.mem_cons.1 hx with rfl | hx
        · omega
        · have:=(List.pairwise_cons.1 hr).1 x hx
          omega)
      simp [this,ht,htb]
    · rw[aXk p r b hr (fun t t' ht' htt hx=>h1 t t' (by omega) htt (fun x hx' h=>by
        rcases List.mem_cons.1 hx' with rfl | hx'
        · omega
        · exact hx x hx' h)) (fun t ht'=>h2 t (fun x hx=>by
        rcases List.mem_cons.1 hx with rfl | hx
        · have:=ht' b (by simp); omega
        · exact ht' x hx)) t (by omega)]
      simp [htb]
def lB:List Int→Int→List Int
  | [],n=>[n]
  | x::r,n=>if n<x then n::x::r else if x=n then x::r else x::lB r n
theorem aAk:∀ (l:List Int) (n x:Int),x∈lB l n↔x=n∨x∈l
  | [],n,x=>by simp [lB]
  | y::r,n,x=>by
    simp only[lB]
    split
    · simp
    · split
      · rename_i h; subst h; simp
      · simp only[List.mem_cons,aAk r n x]
        constructor
        · rintro (h | h | h)
          · exact .inr (.inl h)
          · exact .inl h
          · exact .inr (.inr h)
        · rintro (h | h | h)
          · exact .inr (.inl h)
          · exact .inl h
          · exact .inr (.inr h)
theorem zE:∀ (l:List Int) (n:Int),tZ l→tZ (lB l n)
  | [],n,_=>by simp [lB,tZ]
  | y::r,n,h=>by
    have h1:=List.pairwise_cons.1 h
    simp only[lB]
    split
    · rename_i hn
      refine List.pairwise_cons.2 ⟨fun x hx=>?_,h⟩
      rcases List.mem_cons.1 hx with rfl | hx
      · exact hn
      · have:=h1.1 x hx; omega
    · split
      · exact h
      · refine List.pairwise_cons.2 ⟨fun x hx=>?_,zE r n h1.2⟩
        rcases (aAk r n x).1 hx with rfl | hx
        · omega
        · exact h1.1 x hx
def gJ (l:List Sp):List Int:=l.foldl (fun out s=>lB (lB out s.1) s.2) []
theorem aGs:∀ (l:List Sp) (out:List Int),tZ out→tZ (l.foldl (fun out s=>lB (lB out s.1) s.2) out)∧∀ x,x∈l.foldl (fun out s=>lB (lB out s.1) s.2) out↔x∈out∨∃ s∈l,x=s.1∨x=s.2
  | [],out,h=>⟨h,by simp⟩
  | s::l,out,h=>by
    obtain ⟨i1,i2⟩:=aGs l (lB (lB out s.1) s.2) (zE _ _ (zE _ _ h))
    refine⟨i1,fun x=>?_⟩
    rw[List.foldl_cons,i2,aAk,aAk]
    simp only[List.mem_cons,exists_eq_or_imp]
    constructor
    · rintro ((h | h | h) | h)
      · exact .inr (.inl (.inr h))
      · exact .inr (.inl (.inl h))
      · exact .inl h
      · exact .inr (.inr h)
    · rintro (h | (h | h) | h)
      · exact .inl (.inr (.inr h))
      · exact .inl (.inr (.inl h))
      · exact .inl (.inl h)
      · exact .inr h
theorem aGr (l:List Sp):tZ (gJ l):=(aGs l [] (by simp [tZ])).1
theorem aXv (l:List Sp) (x:Int):x∈gJ l↔∃ s∈l,x=s.1∨x=s.2:=by
  have:=(aGs l [] (by simp [tZ])).2 x
  simpa [gJ] using this
theorem aI9 (l:List Sp) (p:Int→Bool) (h:∀ t t',(∀ s∈l,(s.1≤t↔s.1≤t')∧(s.2≤t↔s.2≤t'))→p t=p t') (h0:∀ t,p t=true→∃ s∈l,s.1≤t∧t<s.2) :
    jQ (gG p [] (gJ l))∧∀ t,eB (gG p [] (gJ l)) t=p t:=by
  obtain ⟨h1,h2⟩:=aBv p (gJ l) [] (aGr l) ⟨by simp,by simp⟩ (by simp)
  refine⟨h1,fun t=>?_⟩
  rw[h2,mM,Bool.false_or]
  have hm:=aXv l
  have hr:=aGr l
  have hhi:∀ t,(∀ x∈gJ l,x≤t)→p t=false:=by
    intro t ht
    cases hq:p t with
    | false=>rfl
    | true =>
      obtain ⟨s,hs,h3,h4⟩:=h0 t hq
      have:=ht s.2 ((hm _).2 ⟨s,hs,.inr rfl⟩)
      omega
  generalize gJ l=e at *
  cases e with
  | nil =>
    rw[hhi t (by simp)]; rfl
  | cons a r =>
    by_cases hta:a≤t
    · refine aXk p r a hr (fun t t' ht htt hx=>h t t' fun s hs=>?_) hhi t hta
      have hh:∀ x,x∈a::r→(x≤t↔x≤t'):=by
        intro x hxm
        constructor
        · intro h; omega
        · intro h'
          rcases List.mem_cons.1 hxm with rfl | hxm
          · exact ht
          · have:=hx x hxm; omega
      exact⟨hh _ ((hm _).2 ⟨s,hs,.inl rfl⟩),hh _ ((hm _).2 ⟨s,hs,.inr rfl⟩)⟩
    · rw[aK4 p (a::r) t hr (fun c hc=>by cases hc; omega)]
      cases hq:p t with
      | false=>rfl
      | true =>
        exfalso
        obtain ⟨s,hs,h3,h4⟩:=h0 t hq
        have h5:=(hm s.1).2 ⟨s,hs,.inl rfl⟩
        rcases List.mem_cons.1 h5 with e | h5
        · omega
        · have:=(List.pairwise_cons.1 hr).1 _ h5; omega
def dC (l:List Sp):List Sp:=gG (eB l) [] (gJ l)
def mL (a b:List Sp):List Sp:=gG (fun t=>eB a t&&eB b t) [] (gJ (a++b))
theorem aB9 {l m:List Sp} {t t':Int} (hl:∀ s∈l,s∈m) (h:∀ s∈m,(s.1≤t↔s.1≤t')∧(s.2≤t↔s.2≤t')):eB l t=eB l t':=by
  rw[Bool.eq_iff_iff,fN,fN]
  constructor
  · rintro ⟨s,hs,h1,h2⟩
    have:=h s (hl s hs)
    exact⟨s,hs,by omega,by omega⟩
  · rintro ⟨s,hs,h1,h2⟩
    have:=h s (hl s hs)
    exact⟨s,hs,by omega,by omega⟩
theorem kV (l:List Sp):jQ (dC l)∧∀ t,eB (dC l) t=eB l t :=
  aI9 l (eB l) (fun _ _ h=>aB9 (fun _ h=>h) h) (fun _ h=>fN.1 h)
theorem gP (a b:List Sp):jQ (mL a b)∧∀ t,eB (mL a b) t=(eB a t&&eB b t) :=
  aI9 (a++b) _ (fun t t' h=>by
      have h1:=aB9 (l:=a) (t:=t) (t':=t') (by simp +contextual) h
      have h2:=aB9 (l:=b) (t:=t) (t':=t') (by simp +contextual) h
      rw[h1,h2])
    (fun _ h=>by
      simp only[Bool.and_eq_true] at h
      obtain ⟨s,hs,h⟩:=fN.1 h.1
      exact⟨s,by simp [hs],h⟩)
def dF (out:List Sp) (s:Sp):List Sp:=match out.getLast? with
  | some x=>if s.1≤x.2 then out.dropLast++[(x.1,max x.2 s.2)] else out++[s]
  | none=>[s]
theorem aNl:∀ (l out:List Sp),jQ out→(∀ s∈l,s.1<s.2)→l.Pairwise (fun a b=>a.1≤b.1)→(∀ x∈out,∀ s∈l,x.1≤s.1) →
    jQ (l.foldl dF out)∧∀ t,eB (l.foldl dF out) t=(eB out t||eB l t)
  | [],out,h,_,_,_=>⟨h,fun t=>by simp [mM]⟩
  | s::l,out,h,hn,hs,hx=>by
    have hs1:=List.pairwise_cons.1 hs
    have hns:=hn s (by simp)
    have step:jQ (dF out s)∧(∀ x∈dF out s,x.1≤s.1)∧∀ t,eB (dF out s) t=(eB out t||(decide (s.1≤t)&&decide (t<s.2))):=by
      rcases List.eq_nil_or_concat out with rfl | ⟨i,x,rfl⟩
      · refine⟨⟨by simpa [dF] using hns,by simp [dF]⟩,by simp [dF],fun t=>by simp [dF,eB]⟩
      · rw[List.concat_eq_append] at *
        have hx1:=h.1 x (by simp)
        have hxs:=hx x (by simp) s (by simp)
        have hp:=List.pairwise_append.1 h.2
        simp only[dF,List.getLast?_append,List.getLast?_singleton,Option.some_or,List.dropLast_concat]
        split
        · rename_i e
          refine⟨⟨fun y hy=>?_,?_⟩,fun y hy=>?_,fun t=>?_⟩
          · rcases List.mem_append.1 hy with hy | hy
            · exact h.1 y (by simp [hy])
            · simp at hy; subst hy; simp only; omega
          · refine List.pairwise_append.2 ⟨hp.1,by simp,fun y hy z hz=>?_⟩
            simp at hz; subst hz
            exact hp.2.2 y hy x (by simp)
          · rcases List.mem_append.1 hy with hy | hy
            · exact hx y (by simp [hy]) s (by simp)
            · simp at hy; subst hy; exact hxs
          · simp only[pX,kX,mM,Bool.or_false,Bool.or_assoc]
            congr 1
            rw[Bool.eq_iff_iff]
            simp
            omega
        · rename_i e
          refine⟨⟨fun y hy=>?_,?_⟩,fun y hy=>?_,fun t=>?_⟩
          · rcases List.mem_append.1 hy with hy | hy
            · exact h.1 y hy
            · simp at hy; subst hy; exact hns
          · refine List.pairwise_append.2 ⟨h.2,by simp,fun y hy z hz=>?_⟩
            simp at hz; subst hz
            rcases List.mem_append.1 hy with hy | hy
            · have:=hp.2.2 y hy x (by simp); omega
            · simp at hy; subst hy; omega
          · rcases List.mem_append.1 hy with hy | hy
            · exact hx y hy s (by simp)
            · simp at hy; subst hy; exact Int.le_refl _
          · simp [pX,kX,mM,Bool.or_assoc]
    obtain ⟨i1,i2⟩:=aNl l (dF out s) step.1 (fun y hy=>hn y (by simp [hy])) hs1.2 (fun x hx' y hy=>Int.le_trans (step.2.1 x hx') (hs1.1 y hy))
    refine⟨i1,fun t=>?_⟩
    rw[List.foldl_cons,i2,step.2.2,kX,Bool.or_assoc]
def pI (s:Sp):Bool:=decide (s.1<s.2)
theorem aN0 (l:List Sp) (t:Int):eB (l.filter pI) t=eB l t:=by
  refine aK6 ⟨fun⟨s,hs,h⟩=>⟨s,(List.mem_filter.1 hs).1,h⟩,fun⟨s,hs,h⟩=>⟨s,List.mem_filter.2 ⟨hs,by simp [pI]; omega⟩,h⟩⟩
theorem aU9 {a b:List Sp} (h:a.Perm b) (t:Int):eB a t=eB b t :=
  aK6 ⟨fun⟨s,hs,k⟩=>⟨s,h.mem_iff.1 hs,k⟩,fun⟨s,hs,k⟩=>⟨s,h.mem_iff.2 hs,k⟩⟩
theorem aF7 {l s:List Sp} (hp:s.Perm (l.filter pI)) (hs:s.Pairwise (fun a b=>a.1≤b.1)):s.foldl dF []=dC l:=by
  obtain ⟨h1,h2⟩:=aNl s [] ⟨by simp,by simp⟩ (fun x hx=>by
    have:=(List.mem_filter.1 (hp.mem_iff.1 hx)).2
    simpa [pI] using this) hs (by simp)
  refine nY _ _ h1 (kV l).1 fun t=>?_
  rw[h2,mM,Bool.false_or,aU9 hp,aN0,(kV l).2]
theorem aKu {a b:List Sp} (hb:jQ b) (h:∀ t,eB a t=eB b t):dC a=b :=
  nY _ _ (kV a).1 hb fun t=>by rw[(kV a).2,h]
def eD (x y:Sp):Sp:=(max x.1 y.1,min x.2 y.2)
def sV (a b:List Sp):List Sp:=a.flatMap fun x=>b.map fun y=>eD x y
theorem aF9 (a b:List Sp):dC (sV a b)=mL a b:=by
  refine aKu (gP a b).1 fun t=>?_
  rw[(gP a b).2,Bool.eq_iff_iff,Bool.and_eq_true,fN,fN,fN]
  constructor
  · rintro ⟨s,hs,h1,h2⟩
    simp only[sV,List.mem_flatMap,List.mem_map] at hs
    obtain ⟨x,hx,y,hy,rfl⟩:=hs
    simp only[eD] at h1 h2
    exact⟨⟨x,hx,by omega,by omega⟩,⟨y,hy,by omega,by omega⟩⟩
  · rintro ⟨⟨x,hx,h1,h2⟩,⟨y,hy,h3,h4⟩⟩
    refine⟨eD x y,?_,?_,?_⟩
    · simp only[sV,List.mem_flatMap,List.mem_map]
      exact⟨x,hx,y,hy,rfl⟩
    · simp only[eD]; omega
    · simp only[eD]; omega
theorem wE (l:List Int) (n:Int):(lB l n).length≤l.length+1:=by
  induction l with
  | nil=>simp [lB]
  | cons x r ih =>
    simp only[lB]
    split
    · simp
    · split
      · simp
      · simp only[List.length_cons]; omega
theorem aA9:∀ (l:List Sp) (out:List Int),(l.foldl (fun out s=>lB (lB out s.1) s.2) out).length≤out.length+2*l.length
  | [],out=>by simp
  | s::l,out=>by
    have h1:=aA9 l (lB (lB out s.1) s.2)
    have h2:=wE (lB out s.1) s.2
    have h3:=wE out s.1
    simp only[List.foldl_cons,List.length_cons]; omega
theorem aBa (l:List Sp):(gJ l).length≤2*l.length:=by
  have:=aA9 l []
  simpa [gJ] using this
theorem aGg (out:List Sp) (s:Sp):(dU out s).length≤out.length+1:=by
  rcases List.eq_nil_or_concat out with rfl | ⟨i,x,rfl⟩
  · simp [dU]
  · rw[List.concat_eq_append]
    simp only[dU,List.getLast?_append,List.getLast?_singleton,Option.some_or,List.dropLast_concat]
    split <;> simp
theorem zH (p:Int→Bool):∀ (e:List Int) (out:List Sp),(gG p out e).length≤out.length+e.length
  | [],out=>by simp [gG]
  | [a],out=>by simp [gG]
  | a::b::r,out=>by
    simp only[gG]
    have h1:=zH p (b::r) (if p a=true then dU out (a,b) else out)
    have h2:=aGg out (a,b)
    simp only[List.length_cons] at h1 ⊢
    split at h1 <;> simp_all <;> omega
theorem aAp (l:List Sp):(dC l).length≤2*l.length:=by
  have h1:=zH (eB l) (gJ l) []
  have h2:=aBa l
  simp only[List.length_nil,Nat.zero_add] at h1
  exact Nat.le_trans h1 h2
theorem aGa (a b:List Sp):(mL a b).length≤2*(a.length+b.length):=by
  have h1:=zH (fun t=>eB a t&&eB b t) (gJ (a++b)) []
  have h2:=aBa (a++b)
  simp only[List.length_nil,Nat.zero_add,List.length_append] at h1 h2
  exact Nat.le_trans h1 h2
end Go.Abs
