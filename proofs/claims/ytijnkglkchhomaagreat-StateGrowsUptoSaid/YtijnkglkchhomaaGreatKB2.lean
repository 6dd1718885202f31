import Derived.WalkKit
import Derived.WalkSpells
import Derived.WalkLawsBesides
import Derived.Deep.LoopGhost
import Derived.ChangeKeysEq
import Derived.Still
import Derived.Lib.AppendZeros
import Derived.Laws.StructEq
import Derived.OpenShut
import Derived.Scope
import Derived.Shelf.SlSortCmp.Kit1
import Derived.Shelf.SlSortCmp.InsertionK
import Derived.Lib.SlicesCompact
import Derived.ProofKit
import Derived.ChangeSame
import Derived.Carry
import Derived.SliceStrings
import Derived.ChangeMaps5
import Derived.Deep.Slices
import Derived.Test.YtijnkglkchhomaaGreatRows
import Derived.Shelf.Abstract
import Derived.Deep.RegionLaw
import Derived.Lib.Walk
import Derived.Lib.Overlaps
import Derived.Lib.AppendZerosOnto
import Derived.Laws.CopyRow
import Derived.Shelf.SlSortCmp.WholeK
import Derived.Shelf.SlSortCmp.Whole1
import Derived.Shelf.SlSortCmp.NoneTotal
import Derived.Test.YtijnkglkchhomaaGreatKB1
set_option maxRecDepth 20000
set_option maxHeartbeats 16000000
set_option linter.unusedVariables false
set_option linter.unusedSimpArgs false
namespace Go.Abs
open Go Go.RowKit
variable {P:Program} {w0:World} {p0:Hp}
def kept (ok:Nat→Bool) (m:Mem) (l:List (Nat×AV)):List (Nat×AV)→Prop
  | []=>True
  | (t,a')::r=>(∃ a,lk l t=some a∧a.only ok m=a')∧kept ok m l r
theorem aG3 {ok:Nat→Bool} {m:Mem} {l:List (Nat×AV)}:∀ {l':List (Nat×AV)},kept ok m l l'→∀ t a',bU l' t=some a'→∃ a,bU l t=some a∧a.only ok m=a'
  | [],_,_,_,h=>by simp [bU] at h
  | (t0,a0)::r,h,t,a',hl=>by
    simp only[bU] at hl
    split at hl
    · rename_i e; subst e; cases hl
      obtain ⟨a,h1,h2⟩:=h.1
      exact⟨a,by rw[← kC]; exact h1,h2⟩
    · exact aG3 h.2 t a' hl
theorem jC {n:Nat} {sl sl':List (Nat×AV)} {m m':Mem} (ok:Nat→Bool) (h:kept ok m sl sl') (hm:Mem.only ok m m=m'):Le ⟨n,sl,m⟩ ⟨n,sl',m'⟩:=by
  subst hm
  refine(Le.only ok ⟨n,sl,m⟩).trans ?_
  intro w0 p0 a w ⟨h1,h2,p,hE,hs,hm⟩
  refine⟨h1,h2,p,hE,fun t a' ht=>?_,hm⟩
  obtain ⟨b,hb1,hb2⟩:=aG3 h t a' ht
  refine hs t a' ?_
  show bU (sl.map fun x=>(x.1,x.2.only ok m)) t=some a'
  rw[wP m (fun x=>x.only ok m),hb1,← hb2]; rfl
def nee (g x:Nat):Bool:=match Nat.beq x g with | true=>false | false=>true
inductive TD where
  | bool
  | int (k:IntKind)
  | str
  | sl (b:Nat) (d:TD)
  | agg (ds:List TD)
  deriving Inhabited
mutual
def TD.n:TD→Nat
  | .agg ds=>TD.nL ds
  | .bool=>1
  | .int _=>1
  | .str=>1
  | .sl _ _=>1
def TD.nL:List TD→Nat
  | []=>0
  | d::r=>d.n+TD.nL r
end
def iY (P:Program) (f:TypeId→Option TD):Nat→List (Nat×TypeId)→Option (List TD)
  | _,[]=>some []
  | o,(off,t)::r=>match f t with
    | some d=>if off=o∧d.n=P.cellsOf t then (iY P f (o+d.n) r).map (d::·) else none
    | none=>none
def tdOf? (P:Program):Nat→TypeId→Option TD
  | 0,_=>none
  | n+1,t=>match P.underlying t with
    | some .bool=>some .bool
    | some (.int k)=>some (.int k)
    | some .string=>some .str
    | some (.slice e)=>match tdOf? P n e with
      | some d=>if d.n=P.cellsOf e∧0<d.n then some (.sl (P.bytesOf e) d) else none
      | none=>none
    | some (.struct fs)=>match iY P (tdOf? P n) 0 (fs.toList.map fun f=>(f.offset,f.type)) with
      | some ds=>if TD.nL ds=P.cellsOf t then some (.agg ds) else none
      | none=>none
    | some (.array m e)=>match iY P (tdOf? P n) 0 ((List.range m).map fun i=>(i*P.cellsOf e,e)) with
      | some ds=>if TD.nL ds=P.cellsOf t then some (.agg ds) else none
      | none=>none
    | _=>none
mutual
def EqTy:TD→List Value→List Value→Bool→Prop
  | .bool,xs,ys,r=>∃ a b,xs=[.bool a]∧ys=[.bool b]∧r=(a == b)
  | .int k,xs,ys,r=>∃ a b,xs=[.int k a]∧ys=[.int k b]∧r=(a == b)
  | .str,xs,ys,r=>∃ a b:ByteArray,xs=[.string a]∧ys=[.string b]∧r=(a.toList == b.toList)
  | .sl _ _,_,_,_=>False
  | .agg ds,xs,ys,r=>EqTyL ds xs ys r
def EqTyL:List TD→List Value→List Value→Bool→Prop
  | [],xs,ys,r=>xs=[]∧ys=[]∧r=true
  | d::ds,xs,ys,r=>∃ a b c e q s,xs=a++b∧ys=c++e∧EqTy d a c q∧EqTyL ds b e s∧r=(q&&s)
end
theorem yX:∀ (k:Nat) (d:TD),SizeOf.sizeOf d<k→∀ xs ys r,EqTy d xs ys r→xs.length=d.n∧ys.length=d.n
  | 0,d,h,_,_,_,_=>by omega
  | k+1,.bool,_,xs,ys,r,⟨a,b,h1,h2,_⟩=>by subst h1; subst h2; simp [TD.n]
  | k+1,.int _,_,xs,ys,r,⟨a,b,h1,h2,_⟩=>by subst h1; subst h2; simp [TD.n]
  | k+1,.str,_,xs,ys,r,⟨a,b,h1,h2,_⟩=>by subst h1; subst h2; simp [TD.n]
  | k+1,.sl _ _,_,xs,ys,r,h=>h.elim
  | k+1,.agg ds,hk,xs,ys,r,h=>by
    simp only[TD.n]
    simp only[EqTy] at h
    have:∀ (ds:List TD),SizeOf.sizeOf ds<k→∀ xs ys r,EqTyL ds xs ys r→xs.length=TD.nL ds∧ys.length=TD.nL ds:=by
      intro ds
      induction ds with
      | nil=>intro _ xs ys r h; simp only[EqTyL] at h; obtain ⟨rfl,rfl,_⟩:=h; simp [TD.nL]
      | cons d rest ih =>
        intro hs xs ys r h
        simp only[EqTyL] at h
        obtain ⟨a,b,c,e,q,s,rfl,rfl,h1,h2,_⟩:=h
        have i1:=yX k d (by simp at hs; omega) a c q h1
        have i2:=ih (by simp at hs; omega) b e s h2
        simp [TD.nL,i1,i2]
    exact this ds (by simp at hk; omega) xs ys r h
theorem aTt {d:TD} {xs ys:List Value} {r:Bool} (h:EqTy d xs ys r):xs.length=d.n∧ys.length=d.n:=yX _ d (Nat.lt_succ_self _) xs ys r h
def xL (d:Nat) (xs ys:Array Value):List (Nat×TypeId)→Sem Bool
  | []=>pure true
  | (o,t)::r=>do
    let a ← part t xs o
    let b ← part t ys o
    let q ← Op.equalIn d t a b
    if (!q)=true then pure false else xL d xs ys r
theorem wQ (d:Nat) (xs ys:Array Value):∀ fs:List Field,(∀ f∈fs,f.name≠"_")→Op.eqFields d xs ys fs=xL d xs ys (fs.map fun f=>(f.offset,f.type))
  | [],_=>rfl
  | f::fs,h=>by
    simp only[Op.eqFields,List.map_cons,xL]
    rw[if_pos (h f (by simp)),wQ d xs ys fs (fun g hg=>h g (by simp [hg]))]
theorem yY (d:Nat) (e:TypeId) (c:Nat) (xs ys:Array Value):∀ is:List Nat,Op.eqItems d e c xs ys is=xL d xs ys (is.map fun i=>(i*c,e))
  | []=>rfl
  | i::is=>by
    simp only[Op.eqItems,List.map_cons,xL]
    rw[yY d e c xs ys is]
def TD.val:TD→List Value→Value
  | .agg _,cs=>.agg cs.toArray
  | _,cs=>cs.headD undef
theorem aAv {n:Nat} {t:TypeId} {d:TD} (ht:tdOf? P n t=some d) (hn:d.n=P.cellsOf t) (a:List Value) (ha:a.length=d.n) (w:World) (i:TypeInfo) (hi:P.info? t=some i) (pre post:List Value) :
    (part t (pre++a++post).toArray pre.length).run P w=.ok (d.val a) w:=by
  cases n with
  | zero=>simp [tdOf?] at ht
  | succ n =>
    have hag:(∃ ds,d=.agg ds∧agg? P t=some true)∨((∀ cs,d.val cs=cs.headD undef)∧d.n=1∧agg? P t=some false):=by
      unfold tdOf? at ht
      unfold agg?
      split at ht
      all_goals first
        | (rename_i hu; rw[hu]; cases ht; exact .inr ⟨fun _=>rfl,rfl,rfl⟩)
        | (rename_i hu; rw[hu]; split at ht; (split at ht; (first | (cases ht; exact .inr ⟨fun _=>rfl,rfl,rfl⟩) | (cases ht; exact .inl ⟨_,rfl,rfl⟩) | cases ht); cases ht); cases ht)
        | cases ht
    rcases hag with ⟨ds,rfl,hag⟩ | ⟨hv,h1,hag⟩
    · have hc:cells? P t=some (TD.agg ds).n:=by
        unfold cells?
        rw[hi,hn]
        simp [Program.cellsOf,hi]
      rw[aGl hag hc]
      simp only[TD.val]
      congr 2
      rw[← ha]
      apply Array.ext_getElem?
      intro j
      rw[Array.getElem?_extract]
      simp only[List.getElem?_toArray,List.size_toArray,List.length_append]
      by_cases hj:j<a.length
      · rw[if_pos (by omega),List.append_assoc,List.getElem?_append_right (by omega),Nat.add_sub_cancel_left,List.getElem?_append_left hj]
      · rw[if_neg (by omega),List.getElem?_eq_none (by omega)]
    · rw[hv]
      match a,ha.trans h1 with
      | [v],_ =>
        rw[aGm hag (v:=v)]
        · rfl
        · simp
theorem aDi (f:TypeId→Option TD) (dd:Nat) (w:World) (hf:∀ t d,f t=some d→∃ n,tdOf? P n t=some d) (ok:TypeId→Prop)
    (IH:∀ t d,f t=some d→ok t→∀ xs ys r,EqTy d xs ys r→(Op.equalIn dd t (d.val xs) (d.val ys)).run P w=.ok r w) :
    ∀ (segs:List (Nat×TypeId)) (o:Nat) (ds:List TD),iY P f o segs=some ds→(∀ s∈segs,ok s.2∧(P.info? s.2).isSome=true) →
      ∀ (pre pre' xs ys:List Value) (r:Bool),pre.length=o→pre'.length=o→EqTyL ds xs ys r→(xL dd (pre++xs).toArray (pre'++ys).toArray segs).run P w=.ok r w:=by
  intro segs
  induction segs with
  | nil =>
    intro o ds h _ pre pre' xs ys r _ _ he
    simp only[iY,Option.some.injEq] at h
    subst h
    simp only[EqTyL] at he
    obtain ⟨_,_,rfl⟩:=he
    rfl
  | cons s rest ih =>
    intro o ds h hok pre pre' xs ys r h1 h2 he
    obtain ⟨off,t⟩:=s
    simp only[iY] at h
    split at h
    · rename_i d hd
      split at h
      · rename_i hc
        obtain ⟨rfl,hn⟩:=hc
        cases hr:iY P f (off+d.n) rest with
        | none=>simp [hr] at h
        | some es =>
          simp only[hr,Option.map_some,Option.some.injEq] at h
          subst h
          simp only[EqTyL] at he
          obtain ⟨a,b,c,e,q,s,rfl,rfl,he1,he2,rfl⟩:=he
          obtain ⟨hokt,hin⟩:=hok (off,t) (by simp)
          obtain ⟨i,hi⟩:=Option.isSome_iff_exists.1 hin
          obtain ⟨m,hm⟩:=hf t d hd
          obtain ⟨l1,l2⟩:=aTt he1
          have p1:=aAv hm hn a l1 w i hi pre b
          have p2:=aAv hm hn c l2 w i hi pre' e
          rw[h1] at p1
          rw[h2] at p2
          have p3:=IH t d hd hokt a c q he1
          have p4:=ih (off+d.n) es hr (fun s hs=>hok s (by simp [hs])) (pre++a) (pre'++c) b e s (by simp [h1,l1]) (by simp [h2,l2]) he2
          simp only[List.append_assoc] at p1 p2 p4
          simp only[xL,Sem.run_bind,p1,p2,p3,Result.andThen_ok]
          cases q
          · simp
          · simpa using p4
      · cases h
    · cases h
theorem aDh (D:Nat):∀ (n:Nat) (t:TypeId) (d:TD),tdOf? P n t=some d→P.keyTypeAt n t=true→∀ (w:World) (xs ys:List Value) (r:Bool),EqTy d xs ys r →
    (Op.equalIn (D+n) t (d.val xs) (d.val ys)).run P w=.ok r w:=by
  intro n
  induction n with
  | zero=>intro t d h; simp [tdOf?] at h
  | succ n ih =>
    intro t d h hk w xs ys r he
    unfold tdOf? at h
    unfold Program.keyTypeAt at hk
    have info_of:∀ (fs:List (Nat×TypeId)) (o:Nat) (ds:List TD),iY P (tdOf? P n) o fs=some ds→∀ s∈fs,(P.info? s.2).isSome=true:=by
      intro fs
      induction fs with
      | nil=>intro o ds _ s hs; simp at hs
      | cons a r iha =>
        intro o ds h s hs
        obtain ⟨off,t⟩:=a
        simp only[iY] at h
        split at h
        · rename_i d hd
          split at h
          · cases hr:iY P (tdOf? P n) (o+d.n) r with
            | none=>simp [hr] at h
            | some es =>
              rcases List.mem_cons.1 hs with rfl | hs
              · cases n with
                | zero=>simp [tdOf?] at hd
                | succ m =>
                  unfold tdOf? at hd
                  cases hu:P.underlying t with
                  | none=>rw[hu] at hd; cases hd
                  | some u =>
                    simp only[Program.underlying] at hu
                    cases hi:P.info? t with
                    | none=>simp [hi] at hu
                    | some i=>rfl
              · exact iha _ es hr s hs
          · cases h
        · cases h
    split at h
    · rename_i ht; cases h
      simp only[EqTy] at he
      obtain ⟨a,b,rfl,rfl,rfl⟩:=he
      exact rV _ ht a b w
    · rename_i k ht; cases h
      simp only[EqTy] at he
      obtain ⟨a,b,rfl,rfl,rfl⟩:=he
      exact run_equalIn_int w _ t k k a b ht
    · rename_i ht; cases h
      simp only[EqTy] at he
      obtain ⟨a,b,rfl,rfl,rfl⟩:=he
      exact run_equalIn_string w _ t a b ht
    · rename_i e ht; rw[ht] at hk; cases hk
    · rename_i fs ht
      rw[ht] at hk
      split at h
      · rename_i ds hds
        split at h
        · rename_i hn
          cases h
          simp only[EqTy] at he
          simp only[Bool.and_eq_true,Bool.not_eq_true',Array.all_eq_true'] at hk
          obtain ⟨⟨hall,_⟩,hst⟩:=hk
          have hfo:P.fieldsOf t=fs:=by simp [Program.fieldsOf,ht]
          simp only[TD.val]
          rw[show D+(n+1)=(D+n)+1 from rfl,run_equalIn_struct w (D+n) t xs.toArray ys.toArray (by rw[hfo]; exact ht) (by simpa using hst),hfo,wQ]
          · have:=aDi (tdOf? P n) (D+n) w (fun t d h=>⟨n,h⟩) (fun t=>P.keyTypeAt n t=true) (fun t d h hk xs ys r he=>ih t d h hk w xs ys r he) _ 0 ds hds (fun s hs=>by
              refine⟨?_,info_of _ 0 ds hds s hs⟩
              obtain ⟨f,hf,rfl⟩:=List.mem_map.1 hs
              have:=hall f (by simpa using hf)
              exact this.2) [] [] xs ys r rfl rfl he
            simpa using this
          · intro f hf
            have:=hall f (by simpa using hf)
            simpa using this.1
        · cases h
      · cases h
    · rename_i m e ht
      rw[ht] at hk
      split at h
      · rename_i ds hds
        split at h
        · rename_i hn
          cases h
          simp only[EqTy] at he
          simp only[TD.val]
          cases m with
          | zero =>
            simp only[List.range_zero,List.map_nil,iY,Option.some.injEq] at hds
            subst hds
            simp only[EqTyL] at he
            obtain ⟨rfl,rfl,rfl⟩:=he
            have hsz:∃ i,P.info? e=some i:=by
              cases n with
              | zero=>simp [Program.keyTypeAt] at hk
              | succ q =>
                cases hu:P.underlying e with
                | none=>exfalso; unfold Program.keyTypeAt at hk; simp [hu] at hk
                | some u =>
                  simp only[Program.underlying] at hu
                  cases hi:P.info? e with
                  | none=>simp [hi] at hu
                  | some i=>exact⟨i,rfl⟩
            obtain ⟨i,hi⟩:=hsz
            rw[show D+(n+1)=(D+n)+1 from rfl,run_equalIn_array w (D+n) _ _ ht hi]
            rfl
          | succ m =>
            have hin:=info_of _ 0 ds hds (0*P.cellsOf e,e) (List.mem_map.2 ⟨0,by simp,rfl⟩)
            obtain ⟨i,hi⟩:=Option.isSome_iff_exists.1 hin
            rw[show D+(n+1)=(D+n)+1 from rfl,run_equalIn_array w (D+n) _ _ ht hi,yY]
            have:=aDi (tdOf? P n) (D+n) w (fun t d h=>⟨n,h⟩) (fun t=>P.keyTypeAt n t=true) (fun t d h hk xs ys r he=>ih t d h hk w xs ys r he) _ 0 ds hds (fun s hs=>by
              refine⟨?_,info_of _ 0 ds hds s hs⟩
              obtain ⟨f,hf,rfl⟩:=List.mem_map.1 hs
              exact hk) [] [] xs ys r rfl rfl he
            simpa using this
        · cases h
      · cases h
    · cases h
def eqT? (P:Program) (t:TypeId):Option TD:=if P.keyTypeAt 16 t&&!P.eqGuardType P.depth t then tdOf? P 16 t else none
def aeq1 (d:TD) (x y:AV):Option Bool:=match d with
  | .int k=>match x,y with
    | .s (.int k1 a),.s (.int k2 b)=>if k1=k∧k2=k then some (a == b) else none
    | _,_=>none
  | .str=>match x,y with
    | .s (.string a),.s (.string b)=>some (a.toList == b.toList)
    | _,_=>none
  | .bool=>match x,y with
    | .s (.bool a),.s (.bool b)=>some (a == b)
    | _,_=>none
  | _=>none
def aT6 (d:TD) (xs ys:List AV):Option (Bool×List AV×List AV):=match xs,ys with
  | x::xs,y::ys=>match aeq1 d x y with | some r=>some (r,xs,ys) | none=>none
  | _,_=>none
theorem aE3 {d:TD} {xs ys xs' ys':List AV} {r:Bool} (h:aT6 d xs ys=some (r,xs',ys')):∃ xas bs:List Value,xs=xas.map .s++xs'∧ys=bs.map .s++ys'∧EqTy d xas bs r:=by
  unfold aT6 at h
  split at h
  · split at h
    · rename_i q hq
      cases h
      unfold aeq1 at hq
      split at hq
      · split at hq
        · split at hq
          · rename_i hk
            obtain ⟨rfl,rfl⟩:=hk
            cases hq
            exact⟨[_],[_],rfl,rfl,by simp only[EqTy]; exact⟨_,_,rfl,rfl,rfl⟩⟩
          · cases hq
        · cases hq
      · split at hq
        · cases hq
          exact⟨[_],[_],rfl,rfl,by simp only[EqTy]; exact⟨_,_,rfl,rfl,rfl⟩⟩
        · cases hq
      · split at hq
        · cases hq
          exact⟨[_],[_],rfl,rfl,by simp only[EqTy]; exact⟨_,_,rfl,rfl,rfl⟩⟩
        · cases hq
      · cases hq
    · cases h
  · cases h
mutual
def aeq:TD→List AV→List AV→Option (Bool×List AV×List AV)
  | .agg ds,xs,ys=>aeqL ds xs ys
  | .int k,xs,ys=>aT6 (.int k) xs ys
  | .str,xs,ys=>aT6 .str xs ys
  | .bool,xs,ys=>aT6 .bool xs ys
  | .sl _ _,_,_=>none
def aeqL:List TD→List AV→List AV→Option (Bool×List AV×List AV)
  | [],xs,ys=>some (true,xs,ys)
  | d::r,xs,ys=>match aeq d xs ys with
    | some (q,xs',ys')=>match aeqL r xs' ys' with | some (s,x2,y2)=>some (q&&s,x2,y2) | none=>none
    | none=>none
end
theorem aQg:∀ (k:Nat) (d:TD),SizeOf.sizeOf d<k→∀ xs ys r xs' ys',aeq d xs ys=some (r,xs',ys')→∃ xas bs:List Value,xs=xas.map .s++xs'∧ys=bs.map .s++ys'∧EqTy d xas bs r
  | 0,d,h,_,_,_,_,_,_=>by omega
  | k+1,.bool,_,xs,ys,r,xs',ys',h=>aE3 (by simpa [aeq] using h)
  | k+1,.int kd,_,xs,ys,r,xs',ys',h=>aE3 (by simpa [aeq] using h)
  | k+1,.str,_,xs,ys,r,xs',ys',h=>aE3 (by simpa [aeq] using h)
  | k+1,.sl _ _,_,xs,ys,r,xs',ys',h=>by simp [aeq] at h
  | k+1,.agg ds,hk,xs,ys,r,xs',ys',h=>by
    have h:aeqL ds xs ys=some (r,xs',ys'):=by simpa [aeq] using h
    simp only[EqTy]
    have:∀ (ds:List TD),SizeOf.sizeOf ds<k→∀ xs ys r xs' ys',aeqL ds xs ys=some (r,xs',ys')→∃ xas bs:List Value,xs=xas.map .s++xs'∧ys=bs.map .s++ys'∧EqTyL ds xas bs r:=by
      intro ds
      induction ds with
      | nil =>
        intro _ xs ys r xs' ys' h
        simp only[aeqL,Option.some.injEq,Prod.mk.injEq] at h
        obtain ⟨rfl,rfl,rfl⟩:=h
        exact⟨[],[],rfl,rfl,by simp [EqTyL]⟩
      | cons d rest ih =>
        intro hs xs ys r xs' ys' h
        simp only[aeqL] at h
        split at h
        · rename_i q x1 y1 h1
          split at h
          · rename_i s x2 y2 h2
            cases h
            obtain ⟨xas,bs,e1,e2,e3⟩:=aQg k d (by simp at hs; omega) _ _ _ _ _ h1
            obtain ⟨as',bs',f1,f2,f3⟩:=ih (by simp at hs; omega) _ _ _ _ _ h2
            exact⟨xas++as',bs++bs',by rw[e1,f1]; simp,by rw[e2,f2]; simp,by simp only[EqTyL]; exact⟨xas,as',bs,bs',q,s,rfl,rfl,e3,f3,rfl⟩⟩
          · cases h
        · cases h
    exact this ds (by simp at hk; omega) xs ys r xs' ys' h
theorem aDw {o:Oper} {σ:St} {op:BinOp} {t yt:TypeId} {x y:Operand} {cs cs':List AV} {ds:List TD} {r b:Bool} (ho:o.op=.binOp op t x y yt) (hx:σ.ev x=.agg cs) (hy:σ.ev y=.agg cs')
    (ht:eqT? P t=some (.agg ds)) (h:aeqL ds cs cs'=some (r,[],[])) (hop:op=.eql∧b=r∨op=.neq∧b=!r):cJ P o σ (.s (.bool b)):=by
  intro act w p hs _
  have h1:=dS hs x
  have h2:=dS hs y
  rw[hx] at h1
  rw[hy] at h2
  obtain ⟨xas,bs,e1,e2,e3⟩:=aQg _ (.agg ds) (Nat.lt_succ_self _) cs cs' r [] [] (by simpa [aeq] using h)
  simp only[List.append_nil] at e1 e2
  have vals:∀ (xas:List Value) v,RelV w p (.agg (xas.map .s)) v→v=.agg xas.toArray:=by
    intro xas v hv
    cases hv with
    | agg _ us hl hc =>
      congr 1
      apply Array.ext_getElem?
      intro i
      cases hi:xas[i]? with
      | none =>
        have:xas.length≤i:=by simpa using hi
        simp at hl
        have e:us.size≤i:=by omega
        simp [e,hi,this]
      | some a =>
        have hlt:=(List.getElem?_eq_some_iff.1 hi).1
        simp at hl
        have hu:us[i]?=some us[i]:=by simp
        have:=(hc i (.s a) us[i] (by simp [hi]) hu).s_inv
        have e:i<us.size:=by omega
        simp [hi,this,e]
  subst e1; subst e2
  have v1:=vals xas _ h1
  have v2:=vals bs _ h2
  refine⟨.bool b,?_,.s _⟩
  unfold eqT? at ht
  split at ht
  · rename_i hc
    simp only[Bool.and_eq_true,Bool.not_eq_true'] at hc
    have hrun:=aDh 9984 16 t _ ht hc.1 w xas bs r e3
    have hrun':(Op.equal t (.agg xas.toArray) (.agg bs.toArray)).run P w=.ok r w:=hrun
    have hg:=run_eqGuard_agg (P:=P) w op t x y xas.toArray bs.toArray hc.2
    rcases hop with ⟨rfl,rfl⟩ | ⟨rfl,rfl⟩
    · simp [execOp,ho,v1,v2,Sem.run_bind,hg,binOp,hrun']
    · simp [execOp,ho,v1,v2,Sem.run_bind,hg,binOp,hrun']
  · cases ht
section
variable {ops:Array Oper} {rest:List Oper} {n d ty:Nat} {ps:String} {af:Array Edge} {gd:Option (Nat×Bool)} {sl:List (Nat×AV)} {m:Mem} {Q:Exit→St→Prop}
theorem iA {t yt:TypeId} {x y:Operand} {cs cs':List AV} {ds:List TD} {r:Bool} (hx:ev sl x=some (.agg cs)) (hy:ev sl y=some (.agg cs')) (ht:eqT? P t=some (.agg ds)) (h:aeqL ds cs cs'=some (r,[],[])) :
    cJ P ⟨some d,.binOp .eql t x y yt,ty,ps,af,gd⟩ ⟨n,sl,m⟩ (.s (.bool r)):=aDw rfl (cQ hx) (cQ hy) ht h (.inl ⟨rfl,rfl⟩)
theorem aCk {t yt:TypeId} {x y:Operand} {cs cs':List AV} {ds:List TD} {r:Bool} (hx:ev sl x=some (.agg cs)) (hy:ev sl y=some (.agg cs')) (ht:eqT? P t=some (.agg ds)) (h:aeqL ds cs cs'=some (r,[],[])) :
    cJ P ⟨some d,.binOp .neq t x y yt,ty,ps,af,gd⟩ ⟨n,sl,m⟩ (.s (.bool !r)):=aDw rfl (cQ hx) (cQ hy) ht h (.inr ⟨rfl,rfl⟩)
end
end Go.Abs
set_option linter.unusedVariables false
set_option linter.unusedSimpArgs false
namespace Go.Abs
open Go Go.RowKit
variable {P:Program} {w0:World} {p0:Hp}
theorem wO {z:Array Value} {n:Nat} {v:Value} (hz:0<z.size) (h:v∈(Builtin.zeroCells z n).toList):v∈z.toList:=by
  simp only[Builtin.zeroCells,Array.toList_map,List.mem_map,Array.toList_range] at h
  obtain ⟨i,_,rfl⟩:=h
  have hlt:i % z.size<z.size:=Nat.mod_lt _ hz
  rw[getElem!_pos z _ hlt]
  exact Array.getElem_mem_toList hlt
theorem aR0 {o:Oper} {σ:St} {K:St→Prop} (hf:Fit w0 p0) {x:Operand} {t e g k by_ off c:Nat} {xs:List (List AV)} {zs:List Value} (ho:o.op=.call { callee:=.builtin .clear,args:=#[x],argTypes:=#[t] }) (hdst:o.dst=none)
    (ht:appT? P t=some (e,k,by_)) (hz:zeros? P e=some zs) (hz1:∀ u∈zs,u.oneCell'=true) (hx:σ.ev x=.own g k off c) (hl:bU σ.mem g=some (.buf k xs))
    (hK:K { σ with mem:=jR g (.buf k (xs.take off)) σ.mem }):AOp P w0 p0 o σ K:=by
  intro a w next Q ⟨h1,h2,p,hE,hs,hm⟩ hnx
  obtain ⟨he,hck,hk0,i,z,hi,hzz,hik,hby,hzc⟩:=appT?_inv ht
  have hr:=dS hs x
  rw[hx] at hr
  generalize hv:a.eval x=v at *
  -- a world that keeps all but the cells behind
  have fin:∀ w':World,Keeps w p w' p→w'.os=w.os→w'.tape=w.tape→w'.drawn=w.drawn→w'.output=w.output→w'.heap.size=w.heap.size→(∀ b,p.A b→w'.heap[b]?=w.heap[b]?) →
      (∀ g' b,g'≠g→p.o g'=some (some b)→w'.heap[b]?=w.heap[b]?) →
      (∀ b cur T,p.o g=some (some b)→w.heap[b]?=some (.cells cur T (0,0))→∃ cur',w'.heap[b]?=some (.cells cur' T (0,0))∧cur'.size=cur.size∧∀ q,q<off*k→cur'[q]?=cur[q]?) →
      Rel w0 p0 { σ with mem:=jR g (.buf k (xs.take off)) σ.mem } (a.put none undef) w':=by
    intro w' hk e1 e2 e2' e3 e4 e5 e6 e7
    refine⟨h1,h2,p,hE.step hk e1 ⟨e2,by rw[e2']; exact Nat.le_refl _⟩ e3 (by rw[e4]; exact Nat.le_refl _) rfl (fun b _ hA=>e5 b hA) (fun g' h1 h2=>absurd h1 h2),hs.keep hk,⟨fun g' hg'=>?_,fun g' mm hg'=>?_,hm.inj,hm.avoid⟩⟩
    · rw[gC g _ σ.mem (by rw[hl]; rfl) g'] at hg'
      split at hg'
      · cases hg'
      · exact hm.dom g' hg'
    · rw[gC g _ σ.mem (by rw[hl]; rfl) g'] at hg'
      split at hg'
      · rename_i heq
        subst heq
        cases hg'
        rcases hm.holds g' _ hl with ⟨d0,d1⟩ | ⟨b,cur,T,d1,d2,d3,d4,d5⟩
        · exact .inl ⟨by rw[d0]; simp,d1⟩
        · obtain ⟨cur',f1,f2,f3⟩:=e7 b cur T d1 d2
          refine .inr ⟨b,cur',T,d1,f1,?_,fun y hy=>d4 y (List.mem_of_mem_take hy),fun j y i' c' hj hi'=>?_⟩
          · rw[f2]
            refine Nat.le_trans (Nat.mul_le_mul_right _ ?_) d3
            simp; omega
          · rw[List.getElem?_take] at hj
            split at hj
            · rename_i hjo
              obtain ⟨u,hu,hru⟩:=d5 j y i' c' hj hi'
              have hil:=(List.getElem?_eq_some_iff.1 hi').1
              rw[(d4 y (List.mem_of_getElem? hj)).1] at hil
              have hjk:(j+1)*k≤off*k:=Nat.mul_le_mul_right _ hjo
              rw[Nat.add_mul] at hjk
              exact⟨u,by rw[f3 _ (by omega)]; exact hu,hru.keep hk⟩
            · cases hj
      · rename_i hne
        exact(hm.holds g' mm hg').keep hk fun b hb=>e6 g' b hne hb
  have noop:o.upon P a next Q (.ok (.value (.tuple #[])) w):=by
    simp only[Oper.upon]
    refine hnx _ _ _ hK ?_
    rw[hdst]
    exact fin w (Keeps.refl w p) rfl rfl rfl rfl rfl (fun _ _=>rfl) (fun _ _ _ _=>rfl) (fun b cur T _ hh=>⟨cur,hh,rfl,fun _ _=>rfl⟩)
  unfold Oper.wp
  cases hr with
  | ownn _ _ hg =>
    have hrun:(execOp a.eval o).run P w=.ok (.value (.tuple #[])) w:=by
      simp [execOp,ho,resolve,invoke,builtin,Builtin.clear_,hv,run_underlying (elem?_inv he)]
    rw[hrun]; exact noop
  | own0 _ _ _ b ad hg =>
    have hrun:(execOp a.eval o).run P w=.ok (.value (.tuple #[])) w:=by
      simp [execOp,ho,resolve,invoke,builtin,Builtin.clear_,hv,run_underlying (elem?_inv he)]
    rw[hrun]; exact noop
  | own _ _ _ _ b cap cur T hg hnc hcap hh hsz =>
    by_cases hc0:c=0
    · subst hc0
      have hrun:(execOp a.eval o).run P w=.ok (.value (.tuple #[])) w:=by
        simp [execOp,ho,resolve,invoke,builtin,Builtin.clear_,hv,run_underlying (elem?_inv he)]
      rw[hrun]; exact noop
    · have hzs:zs=z.cells.toList:=by
        unfold zeros? at hz; simp [hi,hzz] at hz; exact hz.symm
      have hrz:(zeroValue e).run P w=.ok z w:=by simp [zeroValue,typeInfo,hi,hzz]
      have hlen:(Builtin.zeroCells z.cells c).toList.length=c*k:=by
        rw[Array.length_toList,size_zeroCells,hzc]
      have hfit:off*k+0+(Builtin.zeroCells z.cells c).toList.length≤cur.size:=by
        rw[hlen]
        have:c*k≤cap*k:=Nat.mul_le_mul_right _ hnc
        omega
      have hst:=run_storeCells_at P b (off*k) T (Builtin.zeroCells z.cells c).toList 0 cur w hh hfit (fun u hu=>hz1 u (by rw[hzs]; exact wO (by rw[hzc]; exact hk0) hu))
      simp only[Nat.add_zero] at hst hfit
      generalize hcs:(cur.toList.take (off*k)++(Builtin.zeroCells z.cells c).toList++cur.toList.drop (off*k+(Builtin.zeroCells z.cells c).toList.length)).toArray=cs at hst
      have hrun:(execOp a.eval o).run P w=.ok (.value (.tuple #[])) (w.setRow b cs):=by
        simp [execOp,ho,resolve,invoke,builtin,Builtin.clear_,hv,run_underlying (elem?_inv he),hc0,hrz,hst]
      have hcsz:cs.size=cur.size:=by
        rw[← hcs]; simp only[List.size_toArray,List.length_append,List.length_take,List.length_drop]
        simp only[Array.length_toList] at hlen hfit ⊢
        omega
      have hbk:(w.setRow b cs).heap[b]?=some (.cells cs T (0,0)):=setRow_heap w b cur cs T _ hh
      have hoth:∀ b',b'≠b→(w.setRow b cs).heap[b']?=w.heap[b']?:=fun b' hne=>setRow_other w b b' cs hne
      have hwsz:(w.setRow b cs).heap.size=w.heap.size:=by simp [World.setRow]
      have hkeep:Keeps w p (w.setRow b cs) p:=by
        refine⟨fun b' hb'=>?_,fun _ _ h=>h,fun g' b' hg' cur2 T2 hh2=>?_⟩
        · have hne:b'≠b:=fun e=>hb'.2.1 g (e ▸ hg)
          exact⟨⟨by rw[hwsz]; exact hb'.1,hb'.2⟩,hoth b' hne⟩
        · by_cases hne:b'=b
          · subst hne; rw[hh] at hh2; cases hh2; exact⟨cs,hbk,hcsz⟩
          · exact⟨cur2,by rw[hoth b' hne]; exact hh2,rfl⟩
      rw[hrun]
      simp only[Oper.upon]
      refine hnx _ _ _ hK ?_
      rw[hdst]
      refine fin _ hkeep rfl rfl rfl rfl hwsz (fun b' hA=>hoth b' (fun e=>hm.avoid g b hg (e ▸ hA))) (fun g' b' hne hb'=>hoth b' (fun e=>hne (hm.inj g' g b (e ▸ hb') hg))) (fun b' cur' T' hb' hh'=>?_)
      rw[hg] at hb'; cases hb'
      rw[hh] at hh'; cases hh'
      refine⟨cs,hbk,hcsz,fun q hq=>?_⟩
      rw[← hcs]
      have:q<(cur.toList.take (off*k)).length:=by
        simp
        have:off*k+cap*k≤cur.size:=hsz
        omega
      rw[List.append_assoc,List.getElem?_toArray,List.getElem?_append_left this,List.getElem?_take,if_pos hq]
      simp
theorem aLk {o:Oper} {σ:St} {K:St→Prop} (hf:Fit w0 p0) {s x:Operand} {t tn e k by_ d:Nat} {kn kx:IntKind} {n:Nat} (ho:o.op=.call { callee:=.builtin .append,args:=#[s,x],argTypes:=#[t,tn] }) (hdst:o.dst=some d) (hd:d<σ.n) (hfr:σ.fresh d)
    (ht:appT? P t=some (e,k,by_)) (htn:P.underlying tn=some (.int kn)) (hs:σ.ev s=.s (.slice none 0 0)) (hx:σ.ev x=.s (.int kx n)) (hn0:0<n) (hby:n*by_≤140737488355328) (hmax:n≤maxLen)
    (hK:K ({ σ with mem:=(d,.buf k [])::σ.mem }.put d (.own d k 0 n))):AOp P w0 p0 o σ K:=by
  intro a w next Q hr hnx
  obtain ⟨he,hck,hk0,i,z,hi,hz,rfl,rfl,hzc⟩:=appT?_inv ht
  have hslots:∀ p,SlotsRel w p σ.slots a.tmps→a.eval s=.slice none 0 0∧a.eval x=.int kx n:=fun p hsl=>⟨oP hsl hs,oP hsl hx⟩
  have hr0:=hr
  obtain ⟨h1,h2,p,hE,hsl,hm⟩:=hr0
  obtain ⟨es,ex⟩:=hslots p hsl
  have hmx:maxLen=9223372036854775807:=rfl
  have happ:=Go.Lib.run_append_nil_zeros (P:=P) w t tn o.type e i z kx kn (elem?_inv he) htn hi hz n hn0 hk0 (by omega) (by omega)
  have hexec:(execOp a.eval o).run P w=.ok (.value (.slice (some ⟨w.heap.size,0,none⟩) n (grownCap w n 0 e))) (w.drew.alloc (.cells (Builtin.zeroCells z.cells n++Builtin.zeroCells z.cells (grownCap w n 0 e - n)) e)):=by
    simp only[execOp,ho,resolve,invoke,builtin,Sem.run_bind,Sem.run_pure,Result.andThen_ok,List.map_toArray,List.map_cons,List.map_nil,es,ex,happ]
  unfold Oper.wp
  rw[hexec]
  simp only[Oper.upon]
  refine hnx _ _ _ hK ?_
  have hr':Rel w0 p0 σ a w.drew:=Rel.drew hr
  have hcapn:=grownCap_ge w n 0 e
  have hcapm:=grownCap_le_maxLen w n 0 e hmax
  have:=vY hf hr' hfr o.dst (fun y hy=>by rw[hdst] at hy; cases hy; exact hd) (Builtin.zeroCells z.cells n++Builtin.zeroCells z.cells (grownCap w n 0 e - n)) e (.buf i.size []) (.own d i.size 0 n) (.slice (some ⟨w.heap.size,0,none⟩) n (grownCap w n 0 e)) ?_ ?_
  · rw[hdst] at this ⊢; exact this
  · intro p hs hm hkp
    exact .inr ⟨w.heap.size,_,e,by simp [Hp.upd],heap_alloc_new w.drew _,by simp,by simp,by simp⟩
  · intro p hm
    have:=RelV.own (w:=w.drew.alloc (.cells (Builtin.zeroCells z.cells n++Builtin.zeroCells z.cells (grownCap w n 0 e - n)) e)) (p:=p.upd d (some (some w.heap.size))) d i.size 0 n w.heap.size (grownCap w n 0 e) _ e (by simp [Hp.upd]) hcapn hcapm (heap_alloc_new w.drew _)
      (by
        have e1:n*i.size+(grownCap w n 0 e - n)*i.size=grownCap w n 0 e*i.size:=by rw[← Nat.add_mul]; congr 1; omega
        simp only[Array.size_append,size_zeroCells,hzc,e1]; omega)
    simpa using this
section
variable {ops:Array Oper} {rest:List Oper} {n d ty:Nat} {ps:String} {af:Array Edge} {gd:Option (Nat×Bool)} {sl:List (Nat×AV)} {m:Mem} {Q:Exit→St→Prop}
theorem vN (hf:Fit w0 p0) {x:Operand} {t e g k by_ off c:Nat} {xs:List (List AV)} {zs:List Value} (ht:appT? P t=some (e,k,by_)) (hz:zeros? P e=some zs) (hz1:∀ u∈zs,u.oneCell'=true) (hx:ev sl x=some (.own g k off c)) (hl:lk m g=some (.buf k xs))
    (hk:eS P w0 p0 ops rest ⟨n,sl,jR g (.buf k (xs.take off)) m⟩ Q):eS P w0 p0 ops (⟨none,.call { callee:=.builtin .clear,args:=#[x],argTypes:=#[t] },ty,ps,af,none⟩::rest) ⟨n,sl,m⟩ Q :=
  fR rfl (aR0 hf rfl rfl ht hz hz1 (cQ hx) (by rw[← kC]; exact hl) hk)
theorem vO (hf:Fit w0 p0) {s x:Operand} {t tn e k by_ c:Nat} {kn kx:IntKind} (hd:lt d n=true) (hE:lt d E0=true) (hl:lk m d=none) (ht:appT? P t=some (e,k,by_)) (htn:P.underlying tn=some (.int kn))
    (hs:ev sl s=some (.s (.slice none 0 0))) (hx:ev sl x=some (.s (.int kx (c:Nat)))) (hn0:0<c) (hby:c*by_≤140737488355328) (hmax:c≤maxLen)
    (hk:eS P w0 p0 ops rest ⟨n,(d,.own d k 0 c)::sl,(d,.buf k [])::m⟩ Q):eS P w0 p0 ops (⟨some d,.call { callee:=.builtin .append,args:=#[s,x],argTypes:=#[t,tn] },ty,ps,af,none⟩::rest) ⟨n,sl,m⟩ Q :=
  fR rfl (aLk hf rfl rfl (nC hd) (qC hE hl) ht htn (cQ hs) (cQ hx) hn0 hby hmax hk)
theorem aQ5 {t e:Nat} {x:Operand} (hx:ev sl x=some (.s (.slice none 0 0))) (ht:elem? P t=some e):cJ P ⟨some d,.call { callee:=.builtin .len,args:=#[x],argTypes:=#[t] },ty,ps,af,gd⟩ ⟨n,sl,m⟩ (.s (.int .i64 0)):=by
  intro act w p hs _
  exact⟨_,by simp [execOp,resolve,invoke,builtin,Builtin.len_,oP hs (cQ hx),run_underlying (elem?_inv ht),goInt],.s _⟩
theorem lS {t e:Nat} {x:Operand} (hx:ev sl x=some (.s (.slice none 0 0))) (ht:elem? P t=some e):cJ P ⟨some d,.call { callee:=.builtin .cap,args:=#[x],argTypes:=#[t] },ty,ps,af,gd⟩ ⟨n,sl,m⟩ (.s (.int .i64 0)):=by
  intro act w p hs _
  exact⟨_,by simp [execOp,resolve,invoke,builtin,Builtin.cap_,oP hs (cQ hx),run_underlying (elem?_inv ht),goInt],.s _⟩
theorem qY {t e k:Nat} {x y:Operand} {kd:IntKind} (hx:ev sl x=some (.s (.slice none 0 0))) (ht:elem? P t=some e) (hc:cells? P e=some k) (hy:ev sl y=some (.s (.int kd 0))):cJ P ⟨some d,.slice t x none (some y) none,ty,ps,af,gd⟩ ⟨n,sl,m⟩ (.s (.slice none 0 0)):=by
  intro act w p hs _
  have hb:=sW (P:=P) (lo:=none) (hi:=some y) (len:=0) (cap:=0) (l:=0) (h:=0) hs rfl (by simp [bnd,cQ hy]) (Nat.le_refl _) (Nat.le_refl _)
  simp only[Option.map_none,Option.map_some] at hb
  refine⟨_,?_,.s _⟩
  simp [execOp,oP hs (cQ hx),Instr.sliceAt,Instr.slice,run_underlying (elem?_inv ht),hb,dR hc]
theorem aHl (hf:Fit w0 p0) (k:Nat) {x:Operand} (hd:lt d n=true) (hE:lt d E0=true) (hl:lk m d=none) (hx:ev sl x=some (.s (.slice none 0 0))) (hk:eS P w0 p0 ops rest ⟨n,(d,.own d k 0 0)::sl,(d,.buf k [])::m⟩ Q) :
    eS P w0 p0 ops (⟨some d,.assign x,ty,ps,af,none⟩::rest) ⟨n,sl,m⟩ Q:=by
  refine fR rfl ?_
  intro a w next Q' hr hn
  have h0:=aQf (P:=P) (o:=⟨some d,.assign (.const (.slice none 0 0)),ty,ps,af,none⟩) (σ:=⟨n,sl,m⟩) (K:=fun σ'=>eS P w0 p0 ops rest σ' Q) hf k rfl rfl (nC hd) (qC hE hl) hk a w next Q' hr hn
  obtain ⟨h1,h2,p,hE',hs,hm⟩:=hr
  have e:=oP hs (cQ (n:=n) (m:=m) hx)
  have hr1:(execOp a.eval ⟨some d,.assign x,ty,ps,af,none⟩).run P w=.ok (.value (.slice none 0 0)) w:=by simp [execOp,e]
  have hr2:(execOp a.eval ⟨some d,.assign (.const (.slice none 0 0)),ty,ps,af,none⟩).run P w=.ok (.value (.slice none 0 0)) w:=by simp [execOp,Act.eval]
  unfold Oper.wp at h0 ⊢
  rw[hr2] at h0
  rw[hr1]
  exact h0
end
end Go.Abs
set_option linter.unusedVariables false
set_option linter.unusedSimpArgs false
namespace Go.Abs
open Go Go.RowKit
variable {P:Program} {w0:World} {p0:Hp} {ops:Array Oper} {md:Region.Mode} {n:Nat} {mem:Mem}
def aEn (md:Region.Mode) (o:Oper):List Nat:=(o.after.toList.filter (Region.binds md)).map (·.on)
def aH3 (m:Array Bool) (l:List Nat):Array Bool:=l.foldl (fun m d=>m.setIfInBounds d true) m
def wA (md:Region.Mode) (ops:Array Oper):Nat→Array Bool→Array Bool
  | 0,m=>m
  | i+1,m=>wA md ops i (if m.getD i false then aH3 m (match ops[i]? with | some o=>aEn md o | none=>[]) else m)
def rT (md:Region.Mode) (ops:Array Oper) (stop:Nat):Bool :=
  (List.range ops.size).all fun j=>decide (j<stop)||(match ops[j]? with
    | some o=>(List.range stop).all fun i=>(wA md ops ops.size (aH3 (Array.replicate ops.size false) (aEn md o))).getD i false
    | none=>true)
def Closed (md:Region.Mode) (ops:Array Oper) (listed:Array Bool):Prop:=∀ i,listed.getD i false=true→∀ o,ops[i]?=some o→∀ d∈aEn md o,listed.getD d false=true
def Sub (m listed:Array Bool):Prop:=∀ i,m.getD i false=true→listed.getD i false=true
theorem aKx {m:Array Bool} {d i:Nat} (h:(m.setIfInBounds d true).getD i false=true):i=d∨m.getD i false=true:=by
  by_cases hd:d=i
  · exact .inl hd.symm
  · rw[getD_set_ne false hd] at h; exact .inr h
theorem uP {listed:Array Bool}:∀ (l:List Nat) (m:Array Bool),Sub m listed→(∀ d∈l,listed.getD d false=true)→Sub (aH3 m l) listed
  | [],m,h,_=>h
  | d::l,m,h,hl=>by
    refine uP l _ (fun i hi=>?_) (fun d hd=>hl d (by simp [hd]))
    rcases aKx hi with rfl | hi
    · exact hl _ (by simp)
    · exact h i hi
theorem wS {listed:Array Bool} (hc:Closed md ops listed):∀ (i:Nat) (m:Array Bool),Sub m listed→Sub (wA md ops i m) listed
  | 0,m,h=>h
  | i+1,m,h=>by
    simp only[wA]
    refine wS hc i _ ?_
    split
    · rename_i hm
      refine uP _ m h ?_
      cases ho:ops[i]? with
      | none=>simp
      | some o=>exact fun d hd=>hc i (h i hm) o ho d hd
    · exact h
theorem aEo {listed:Array Bool} {j:Nat} {o:Oper} (ho:ops[j]?=some o) (hj:j∈Region.ready md ops listed):∀ d∈aEn md o,listed.getD d false=true:=by
  obtain ⟨_,o',ho',hall⟩:=mem_ready.1 hj
  rw[ho] at ho'; cases ho'
  intro d hd
  simp only[aEn,List.mem_map,List.mem_filter] at hd
  obtain ⟨e,⟨he,hb⟩,rfl⟩:=hd
  exact hall e (by simpa using he) hb
theorem aNx {listed:Array Bool} {stop j:Nat} (ht:rT md ops stop=true) (hc:Closed md ops listed) (hj:j∈Region.ready md ops listed) (hs:stop≤j):∀ i,i<stop→listed.getD i false=true:=by
  obtain ⟨_,o,ho,_⟩:=mem_ready.1 hj
  have hlt:=(Array.getElem?_eq_some_iff.1 ho).1
  simp only[rT,List.all_eq_true,List.mem_range] at ht
  have h1:=ht j hlt
  have hns:¬ j<stop:=by omega
  simp only[hns,decide_false,Bool.false_or,ho,List.all_eq_true,List.mem_range] at h1
  intro i hi
  refine wS hc ops.size _ (uP _ _ (fun q hq=>?_) (aEo ho hj)) i (h1 i hi)
  exfalso
  rw[Array.getD_eq_getD_getElem?] at hq
  rw[Array.getElem?_replicate] at hq
  split at hq <;> simp at hq
theorem Closed.set {listed:Array Bool} {j:Nat} (hc:Closed md ops listed) (hj:j∈Region.ready md ops listed):Closed md ops (listed.setIfInBounds j true):=by
  intro i hi o ho d hd
  rcases aKx hi with rfl | hi
  · exact getD_set_true (aEo ho hj d hd)
  · exact getD_set_true (hc i hi o ho d hd)
theorem aLf:Closed md ops (Array.replicate ops.size false):=by
  intro i hi
  exfalso
  rw[Array.getD_eq_getD_getElem?,Array.getElem?_replicate] at hi
  split at hi <;> simp at hi
def aCx (P:Program) (md:Region.Mode) (ops:Array Oper) (n:Nat) (mem:Mem) (stop:Nat) (E:Array Bool→FS→Prop):Nat→Array Bool→FS→Prop
  | 0,listed,s=>(∀ i,i<stop→listed.getD i true=true)∧E listed s
  | fuel+1,listed,s=>(Region.ready md ops listed≠[])∧∀ i∈Region.ready md ops listed,gOp P ops n mem i (aCx P md ops n mem stop E fuel (listed.setIfInBounds i true)) s
theorem aCt (hf:Fit w0 p0) {stop r:Nat} {E:Array Bool→FS→Prop} {Q':Exit→Act→World→Prop} (hE:∀ listed s a w,aI4 w0 p0 n mem s a w→E listed s→wpAny P md ops Q' r listed a w):∀ (fuel:Nat) (listed:Array Bool) (s:FS) (a:Act) (w:World),aI4 w0 p0 n mem s a w →
    aCx P md ops n mem stop E fuel listed s→wpAny P md ops Q' (fuel+r) listed a w
  | 0,listed,s,a,w,hr,h=>by rw[Nat.zero_add]; exact hE _ _ _ _ hr h.2
  | fuel+1,listed,s,a,w,hr,h=>by
    rw[show fuel+1+r=(fuel+r)+1 by omega]
    exact⟨fun h0=>absurd h0 h.1,fun i hi=>aAp hf hr (fun s' a' w' hr'=>aCt hf hE fuel _ s' a' w' hr') (h.2 i hi)⟩
theorem aHo {stop:Nat} {E:Array Bool→FS→Prop} (ht:rT md ops stop=true) {i:Nat} {oi:Oper} {av:AV} (his:i<stop) (hi:ops[i]?=some oi) :
    ∀ (fuel:Nat) (listed:Array Bool) (s:FS),Closed md ops listed →
      (∀ j oj,ops[j]?=some oj→j≠i→listed.getD j true=false→(∀ e∈oj.after,Region.binds md e=true→e.on≠i)→oi.apart ops oj=true) →
      i∈Region.ready md ops listed→YieldsS P ops n mem oi av s →
      aCx P md ops n mem stop E fuel (listed.setIfInBounds i true) (tX s oi.dst av)→aCx P md ops n mem stop E (fuel+1) listed s:=by
  have early:∀ (listed:Array Bool),Closed md ops listed→i∈Region.ready md ops listed→∀ j∈Region.ready md ops listed,j<stop:=by
    intro listed hc hr j hj
    rcases Nat.lt_or_ge j stop with h | h
    · exact h
    · exfalso
      have h1:=aNx ht hc hj h i his
      have h0:=(mem_ready.1 hr).1
      rcases Nat.lt_or_ge i listed.size with h' | h'
      · simp [h'] at h0 h1; rw[h0] at h1; cases h1
      · simp [Array.getElem?_eq_none h'] at h1
  intro fuel
  induction fuel with
  | zero =>
    intro listed s hc _ hr hy H
    refine⟨fun h=>(by rw[h] at hr; cases hr),fun j hj=>?_⟩
    by_cases hji:j=i
    · subst hji; exact hy.gOp hi H
    · exfalso
      have h1:=H.1 j (early listed hc hr j hj)
      rw[getD_set_ne true (Ne.symm hji)] at h1
      have h0:=(mem_ready.1 hj).1
      rw[h0] at h1; cases h1
  | succ fuel ih =>
    intro listed s hc hfree hr hy H
    refine⟨fun h=>(by rw[h] at hr; cases hr),fun j hj=>?_⟩
    by_cases hji:j=i
    · subst hji; exact hy.gOp hi H
    · have h1:=H.2 j (ready_mono hj hji)
      obtain ⟨hjun,oj,hoj,hall⟩:=mem_ready.1 hj
      have hnot:∀ e∈oj.after,Region.binds md e=true→e.on≠i:=fun e he hb heq=>by
        have h1:=hall e he hb
        have h0:=(mem_ready.1 hr).1
        rw[heq] at h1
        rcases Nat.lt_or_ge i listed.size with h' | h'
        · simp [h'] at h0 h1; rw[h0] at h1; cases h1
        · simp [Array.getElem?_eq_none h'] at h1
      have h2:=aQa hoj (hfree j oj hoj hji hjun hnot) hy h1
      have hfree':∀ k ok,ops[k]?=some ok→k≠i→(listed.setIfInBounds j true).getD k true=false →
          (∀ e∈ok.after,Region.binds md e=true→e.on≠i)→oi.apart ops ok=true:=fun k ok hk hki hun hno=>by
        refine hfree k ok hk hki ?_ hno
        by_cases hjk:j=k
        · subst hjk; exact hjun
        · rw[getD_set_ne true hjk] at hun; exact hun
      refine aKy (fun s' h3=>ih (listed.setIfInBounds j true) s' (hc.set hj) hfree' (ready_mono hr (Ne.symm hji)) h3.1 ?_) h2
      rw[Array.setIfInBounds_comm _ _ hji]
      exact h3.2
def aH4 (md:Region.Mode) (ops:Array Oper):Nat→Nat→Array Bool→Bool
  | 0,_,_=>true
  | fuel+1,k,listed=>(Region.ready md ops listed).contains k&&Region.free md ops listed k&&aH4 md ops fuel (k+1) (listed.setIfInBounds k true)
def aCi:Nat→Nat→Array Bool→Array Bool
  | 0,_,listed=>listed
  | fuel+1,k,listed=>aCi fuel (k+1) (listed.setIfInBounds k true)
theorem aCw {stop:Nat} {E:Array Bool→FS→Prop} (ht:rT md ops stop=true):∀ (l:List Oper) (k:Nat) (listed:Array Bool) (s:FS),(∀ j o,l[j]?=some o→ops[k+j]?=some o)→k+l.length=stop→Closed md ops listed→(∀ i,i<k→listed.getD i true=true) →
    aH4 md ops l.length k listed=true→pY P ops n mem (fun s=>E (aCi l.length k listed) s) l s→aCx P md ops n mem stop E l.length listed s
  | [],k,listed,s,_,hk,_,hlt,_,h=>⟨fun i hi=>hlt i (by simpa [← hk] using hi),h⟩
  | o::l,k,listed,s,hl,hk,hc,hlt,hB,h=>by
    have h0:ops[k]?=some o:=by simpa using hl 0 o rfl
    simp only[List.length_cons,aH4,Bool.and_eq_true] at hB
    obtain ⟨⟨hr,hf⟩,hB'⟩:=hB
    obtain ⟨av,hy,hK⟩:=h
    have hr':k∈Region.ready md ops listed:=by simpa using hr
    refine aHo ht (by simp at hk; omega) h0 l.length listed s hc (Region.free_spec h0 hf) hr' hy ?_
    refine aCw ht l (k+1) _ _ (fun j o' hj=>by have:=hl (j+1) o' (by simpa using hj); simpa [Nat.add_assoc,Nat.add_comm 1 j] using this) (by simp at hk; omega) (hc.set hr') (fun i hi=>?_) hB' hK
    by_cases hik:k=i
    · subst hik
      have hsz:k<listed.size∨listed.size≤k:=Nat.lt_or_ge _ _
      rcases hsz with h | h
      · simp [h]
      · simp [h]
    · rw[getD_set_ne true hik]; exact hlt i (by omega)
def aK5 (ops:Array Oper) (stop:Nat):Bool:=rT .any ops stop&&aH4 .any ops stop 0 (Array.replicate ops.size false)
variable {sl:List (Nat×AV)} {m:Mem} {Q:Exit→St→Prop}
theorem kV (hf:Fit w0 p0) {id:Nat} {l:List Oper} {K:FS→Prop} {L:Array Bool} (stop r:Nat) (hm:P.follows .mixedOrders=true) (hB:aK5 l.toArray stop=true) (hsz:l.length=stop+r) (hL:aCi stop 0 (Array.replicate l.toArray.size false)=L)
    (hK:K=fun s=>∃ σ':St,σ'.n=n∧σ'.mem=m∧jD (fun t=>some (s t)) σ'.slots∧kY σ'.slots=true∧oZ P w0 p0 l.toArray Q r L σ') (h:pY P l.toArray n m K (l.take stop) (fsl sl)):AW P w0 p0 (.region id l.toArray true) ⟨n,sl,m⟩ Q:=by
  subst hK
  intro a w ⟨h1,h2,p,hE,hs,hmem⟩
  refine wp_region_any hm ?_
  simp only[aK5,Bool.and_eq_true] at hB
  have hr:aI4 w0 p0 n m (fsl sl) a { w with drawn:=w.drawn+1 }:=by
    have hg:Grow w { w with drawn:=w.drawn+1 }:=⟨rfl,⟨rfl,Nat.le_succ _⟩,rfl,Nat.le_refl _,fun _ _=>rfl⟩
    have hk:=hg.keeps hmem
    refine⟨h1,h2,p,hE.step hk hg.os hg.tape hg.output hg.size rfl (fun b hb _=>hg.heap b hb) (fun g h1 h2=>absurd h1 h2),fun t=>?_,⟨hmem.dom,fun g m hl=>(hmem.holds g m hl).keep hk fun _ _=>rfl,hmem.inj,hmem.avoid⟩⟩
    unfold fsl
    rw[kC]
    cases hl:bU sl t with
    | none=>exact .inl rfl
    | some b=>obtain ⟨v,hv,hrv⟩:=hs t b hl; exact .inr ⟨v,hv,hrv.keep hk⟩
  have hlen:(l.take stop).length=stop:=by simp; omega
  have key:=aCw (P:=P) (n:=n) (mem:=m) (E:=fun listed (s:FS)=>listed=L∧∃ σ':St,σ'.n=n∧σ'.mem=m∧jD (fun t=>some (s t)) σ'.slots∧kY σ'.slots=true∧oZ P w0 p0 l.toArray Q r L σ') hB.1 (l.take stop) 0 (Array.replicate l.toArray.size false) (fsl sl)
    (fun j o hj=>by
      rw[List.getElem?_take] at hj
      split at hj
      · simpa using hj
      · cases hj) (by omega) aLf (by simp) (by rw[hlen]; exact hB.2) (by
      rw[hlen]
      have:(fun(s:FS)=>aCi stop 0 (Array.replicate l.toArray.size false)=L∧∃ σ':St,σ'.n=n∧σ'.mem=m∧jD (fun t=>some (s t)) σ'.slots∧kY σ'.slots=true∧oZ P w0 p0 l.toArray Q r L σ')=(fun(s:FS)=>∃ σ':St,σ'.n=n∧σ'.mem=m∧jD (fun t=>some (s t)) σ'.slots∧kY σ'.slots=true∧oZ P w0 p0 l.toArray Q r L σ'):=by
        funext s; exact propext ⟨fun h=>h.2,fun h=>⟨hL,h⟩⟩
      exact this ▸ h)
  rw[hlen] at key
  have:=aCt hf (r:=r) (Q':=fun e a' w'=>∃ σ',Q e σ'∧Rel w0 p0 σ' a' w') (fun listed s a w hr hQ=>?_) stop _ _ a _ hr key
  · have e:l.toArray.size=stop+r:=by simpa using hsz
    rw[e] at this ⊢
    exact this
  · obtain ⟨rfl,σ',e1,e2,hc,hnb,hQ'⟩:=hQ
    obtain ⟨g1,g2,q,hE',hs',hm'⟩:=hr
    refine hQ' a w ⟨g1,by rw[e1]; exact g2,q,hE',fun t b hb=>?_,by rw[e2]; exact hm'⟩
    have hst:s t=b:=by simpa using lY hc t b hb
    rcases hs' t with h | ⟨v,hv,hrv⟩
    · rw[hst] at h
      subst h
      exact absurd hb (pW hnb t)
    · exact⟨v,hv,hst ▸ hrv⟩
theorem aTk {K:FS→Prop} {sl':List (Nat×AV)} {r:Nat} {L:Array Bool} (hK:K=fun s=>∃ σ':St,σ'.n=n∧σ'.mem=m∧jD (fun t=>some (s t)) σ'.slots∧kY σ'.slots=true∧oZ P w0 p0 ops Q r L σ') (hc:nU sl sl') (hnb:kY sl'=true) (h:oZ P w0 p0 ops Q r L ⟨n,sl',m⟩):pY P ops n m K [] (fsl sl):=by
  subst hK
  refine⟨⟨n,sl',m⟩,rfl,rfl,?_,hnb,h⟩
  have:∀ l,nU sl l→jD (fun t=>some (fsl sl t)) l:=by
    intro l
    induction l with
    | nil=>intro _; trivial
    | cons x r ih =>
      intro h
      obtain ⟨t,a⟩:=x
      exact⟨by simp [fsl,h.1],ih h.2⟩
  exact this sl' hc
def aP7 (K:St→Prop):Exit→St→Prop:=fun e σ=>e=.normal∧K σ
theorem aLj {o:Oper} {σ:St} {K:St→Prop} (hg:o.guard=none) (h:eS P w0 p0 ops [o] σ (aP7 K)):AOp P w0 p0 o σ K:=by
  intro a w next Q hr hn
  have h1:=h a w hr
  simp only[wpList] at h1
  rw[if_pos (by simp [Region.wanted,hg])] at h1
  have hno:¬ LetsOut (fun e a' w'=>∃ σ',aP7 K e σ'∧Rel w0 p0 σ' a' w'):=fun⟨_,_,_,h,_⟩=>by cases h.1
  rcases h1 with h1 | h1
  · unfold Oper.wp at h1 ⊢
    generalize (execOp a.eval o).run P w=r at h1 ⊢
    cases r with
    | ok nx w' =>
      cases nx <;> simp only[Oper.upon,wpList] at h1 ⊢
      case value v=>obtain ⟨σ',h2,h3⟩:=h1; exact hn _ _ _ h2.2 h3
      case skip=>obtain ⟨σ',h2,h3⟩:=h1; exact hn _ _ _ h2.2 h3
      case defer=>obtain ⟨σ',h2,h3⟩:=h1; exact hn _ _ _ h2.2 h3
      case enter =>
        refine Calls.mono h1 (fun e w'' he=>?_)
        cases e with
        | returned v=>obtain ⟨σ',h2,h3⟩:=he; exact hn _ _ _ h2.2 h3
        | panicked c=>obtain ⟨σ',h2,h3⟩:=he; cases h2.1
        | outgrown=>exact absurd he hno
      case row=>exact Rows.mono h1 (fun v w'' ⟨σ',h2,h3⟩=>hn _ _ _ h2.2 h3)
    | halt x w' =>
      cases x <;> simp only[Oper.upon] at h1 ⊢
      obtain ⟨σ',h2,h3⟩:=h1; cases h2.1
  · exact absurd h1.2 hno
theorem aF {σ:St} {K:St→Prop} (h:K σ):eS P w0 p0 ops [] σ (aP7 K):=bV ⟨rfl,h⟩
end Go.Abs
set_option linter.unusedVariables false
set_option linter.unusedSimpArgs false
namespace Go.Abs
open Go Go.RowKit
variable {P:Program} {w0:World} {p0:Hp}
variable {ops:Array Oper} {rest:List Oper} {n d ty:Nat} {ps:String} {af:Array Edge} {sl:List (Nat×AV)} {m:Mem} {Q:Exit→St→Prop}
def aTa (d:Nat):Operand→Bool
  | .tmp t=>match Nat.beq d t with | true=>false | false=>true
  | _=>true
theorem aEl {a:Act} {y:Operand} {d:Nat} {v:Value} (h:aTa d y=true):(a.put (some d) v).eval y=a.eval y:=by
  cases y with
  | tmp t =>
    simp only[aTa] at h
    split at h
    · cases h
    · rename_i hb
      have hne:d≠t:=fun e=>by subst e; simp at hb
      simp only[Act.eval,Act.put,Array.getD_eq_getD_getElem?]
      rw[Array.getElem?_setIfInBounds_ne hne]
  | const v=>rfl
  | func f=>rfl
  | global g=>rfl
theorem cC (hf:Fit w0 p0) {t t2 ty2:Nat} {ps2:String} {af2:Array Edge} {y:Operand} {zs:List Value} {c:Nat} {av:AV} {cs:List AV} (hd:lt d n=true) (hz:zeros? P t=some zs) (hzl:zs.length=c) (hn:cells? P t2=some c) (hy:ev sl y=some av) (hne:aTa d y=true) (hcs:av.cells=cs) (hlen:cs.length=c) (h1:∀ c∈cs,c.leaf=true)
    (hk:eS P w0 p0 ops rest ⟨n,(d,.adr cs)::sl,m⟩ Q):eS P w0 p0 ops (⟨some d,.alloc t,ty,ps,af,none⟩::⟨none,.store t2 (.tmp d) y,ty2,ps2,af2,none⟩::rest) ⟨n,sl,m⟩ Q:=by
  subst hcs
  intro a w ⟨h2,h3,p,hE,hs,hm⟩
  obtain ⟨z,hz1,hz2⟩:=zeros?_inv hz w
  have hrun1:(execOp a.eval ⟨some d,.alloc t,ty,ps,af,none⟩).run P w=.ok (.value (.pointer (some ⟨w.heap.size,0,none⟩))) (w.alloc (.cells z.cells t)):=by
    simp [execOp,Instr.alloc,hz1,newVar,newRow]
  refine wpList_plain rfl fun K1 hK1=>?_
  unfold Oper.wp
  rw[hrun1]
  simp only[Oper.upon]
  refine hK1 _ _ ?_
  refine wpList_plain rfl fun K2 hK2=>?_
  have hdn:d<a.tmps.size:=by rw[h3]; exact nC hd
  have ed:(a.put (some d) (.pointer (some ⟨w.heap.size,0,none⟩))).eval (.tmp d)=.pointer (some ⟨w.heap.size,0,none⟩):=by
    simp [Act.eval,Act.put,hdn]
  have ey:(a.put (some d) (.pointer (some ⟨w.heap.size,0,none⟩))).eval y=a.eval y:=aEl hne
  have hzsz:z.cells.size=c:=by rw[← hzl,← hz2]; simp
  have hrv:RelV w p av (a.eval y):=(cQ (n:=n) (m:=m) hy) ▸ dS hs y
  obtain ⟨hl,hc⟩:=hrv.cells (fun c hc=>AV.one_of_leaf (h1 c hc))
  have hone:∀ u∈(a.eval y).cells.toList,u.oneCell'=true:=by
    intro u hu
    obtain ⟨i,hi⟩:=List.getElem?_of_mem hu
    have hlt:=(List.getElem?_eq_some_iff.1 hi).1
    have hlt':i<av.cells.length:=by simp at hlt; omega
    obtain ⟨u',hu',hr'⟩:=hc i _ (List.getElem?_eq_getElem hlt')
    simp only[Array.getElem?_toList] at hi
    rw[hi] at hu'; cases hu'
    exact hr'.one (AV.one_of_leaf (h1 _ (List.getElem_mem hlt')))
  have hnew:=heap_alloc_new w (.cells z.cells t)
  have hst:=run_storeCells_at P w.heap.size 0 t (a.eval y).cells.toList 0 z.cells (w.alloc (.cells z.cells t)) hnew (by simp; omega) hone
  generalize hcs:(z.cells.toList.take (0+0)++(a.eval y).cells.toList++z.cells.toList.drop (0+0+(a.eval y).cells.toList.length)).toArray=cs at hst
  have hcsv:cs=(a.eval y).cells:=by
    rw[← hcs]
    have:(z.cells.toList.drop (0+0+(a.eval y).cells.toList.length))=[]:=by
      rw[List.drop_eq_nil_iff]; simp; omega
    rw[this]; simp
  have hsz2:(a.eval y).cells.size=c:=by omega
  have hrun2:(execOp (a.put (some d) (.pointer (some ⟨w.heap.size,0,none⟩))).eval ⟨none,.store t2 (.tmp d) y,ty2,ps2,af2,none⟩).run P (w.alloc (.cells z.cells t))=.ok .skip ((w.alloc (.cells z.cells t)).setRow w.heap.size cs):=by
    simp [execOp,ed,ey,Instr.storeAt,Instr.sureAddr,storeVar,dR hn,hsz2,hst]
  unfold Oper.wp
  rw[hrun2]
  simp only[Oper.upon]
  refine hK2 _ _ ?_
  have hw'sz:((w.alloc (.cells z.cells t)).setRow w.heap.size cs).heap.size=w.heap.size+1:=by simp [World.setRow]
  have hbk:((w.alloc (.cells z.cells t)).setRow w.heap.size cs).heap[w.heap.size]?=some (.cells cs t (0,0)):=setRow_heap _ w.heap.size z.cells cs t _ hnew
  have hg:Grow w ((w.alloc (.cells z.cells t)).setRow w.heap.size cs):=⟨rfl,⟨rfl,Nat.le_refl _⟩,rfl,by rw[hw'sz]; omega,fun b hb=>by
    rw[setRow_other _ w.heap.size b cs (by omega)]
    exact Below.heap_alloc w _ b hb⟩
  generalize hw':(w.alloc (.cells z.cells t)).setRow w.heap.size cs=w' at hg hbk hw'sz ⊢
  have hkp:=hg.keeps hm
  have hAb:∀ b,p.A b→b<w.heap.size:=fun b hb=>Nat.lt_of_lt_of_le (hf.others b (hE.A ▸ hb)) hE.size
  have hstab:Stable w' p w.heap.size:=⟨by rw[hw'sz]; omega,fun g hgb=>Nat.lt_irrefl _ (hm.lt hgb),fun hA=>Nat.lt_irrefl _ (hAb _ hA)⟩
  refine hk _ w' ⟨h2,by simpa [Act.put] using h3,p,hE.step hkp hg.os hg.tape hg.output hg.size rfl (fun b hb _=>hg.heap b hb) (fun g h1 h2=>absurd h1 h2),?_,⟨hm.dom,fun g m hl=>(hm.holds g m hl).keep hkp fun b hb=>hg.heap b (hm.lt hb),hm.inj,hm.avoid⟩⟩
  have hadr:RelV w' p (.adr av.cells) (.pointer (some ⟨w.heap.size,0,none⟩)):=by
    refine .adr _ w.heap.size 0 (fun i=>((a.eval y).cells[i]?).getD undef) hstab h1 (fun i c hi=>?_) (fun i c hi=>?_)
    · obtain ⟨u,hu,hr⟩:=hc i c hi
      rw[Nat.zero_add,gA hbk,hcsv,hu]; rfl
    · obtain ⟨u,hu,hr⟩:=hc i c hi
      rw[hu]; exact hr.keep hkp
  exact(hs.keep hkp).put hdn hadr
end Go.Abs
set_option linter.unusedVariables false
set_option linter.unusedSimpArgs false
namespace Go.Abs
open Go Go.RowKit
variable {P:Program} {w0:World} {p0:Hp}
def G0:Nat:=1000000
structure Took (w:World) (x:Option Nat) (w':World):Prop where
  os:w'.os=w.os
  tape:w'.tape=w.tape∧w.drawn≤w'.drawn
  output:w'.output=w.output
  size:w.heap.size≤w'.heap.size
  same:∀ b,b<w.heap.size→x≠some b→w'.heap[b]?=w.heap[b]?
def DenR (P:Program) (f:Nat) (args:List AV) (k:Nat) (xs:List (List AV)) (Q:List (List AV)→Prop):Prop :=
  ∀ (A:Nat→Prop) (w:World) (x:Option Nat) (vals:List Value),(∀ b,A b→b<w.heap.size)→(∀ b,x=some b→¬ A b)→RelL w (gB x A) args vals→AMRel w (gB x A) E0 (.buf k xs) →
    Calls P f vals.toArray w (fun e w'=>∃ v ys x',e=.returned v∧Q ys∧Took w x w'∧(∀ b,x'=some b→x=some b∨w.heap.size≤b)∧AMRel w' (gB x' A) E0 (.buf k ys)∧RelV w' (gB x' A) (.own E0 k 0 ys.length) v)
theorem DenR.mono {f:Nat} {args:List AV} {k:Nat} {xs:List (List AV)} {Q Q':List (List AV)→Prop} (h:DenR P f args k xs Q) (hq:∀ ys,Q ys→Q' ys):DenR P f args k xs Q' :=
  fun A w x vals h1 h2 h3 h4=>(h A w x vals h1 h2 h3 h4).mono fun e w' ⟨v,ys,x',e1,e2,e3⟩=>⟨v,ys,x',e1,hq _ e2,e3⟩
def named (x:Option Nat) (A:Nat→Prop):Hp:={ o:=fun g=>if g=G0 then some x else none,A:=A }
section
variable {n:Nat} {sl:List (Nat×AV)} {m:Mem} {ops:Array Oper} {rest:List Oper} {Q:Exit→St→Prop} {d ty:Nat} {ps:String} {af:Array Edge}
end
end Go.Abs
set_option linter.unusedVariables false
set_option linter.unusedSimpArgs false
namespace Go.Abs
open Go Go.RowKit
variable {P:Program} {w0:World} {p0:Hp}
def iM (P:Program) (o:Oper) (σ:St) (av:AV):Prop :=
  ∀ (act:Act) (w:World) (p:Hp),SlotsRel w p σ.slots act.tmps→MemRel w p σ.mem→∃ v,(∀ w2,(execOp act.eval o).run P w2=.ok (.value v) w2)∧RelV w p av v
theorem sX {σ:St} {act:Act} {w:World} (w2:World) {p:Hp} (hs:SlotsRel w p σ.slots act.tmps) {x:Operand} {d n y:Nat} (h:bnd σ d (some x)=some n) (hy:n≤y) (code:BoundsCode) :
    (Instr.sliceBound (act.eval x) y code).run P w2=.ok n w2:=by
  simp only[bnd] at h
  split at h
  · rename_i k i hx
    split at h
    · rename_i h0
      cases h
      have hle:i≤(y:Int):=by omega
      simp [Instr.sliceBound,oP hs hx,asIntOf,h0,hle]
    · cases h
  · cases h
theorem aAw {σ:St} {act:Act} {w:World} (w2:World) {p:Hp} (hs:SlotsRel w p σ.slots act.tmps) {lo hi:Option Operand} {len cap l h:Nat} (hl:bnd σ 0 lo=some l) (hh:bnd σ len hi=some h) (h1:l≤h) (h2:h≤cap) :
    (Instr.sliceBounds true len cap (lo.map act.eval) (hi.map act.eval) none).run P w2=.ok (l,h,cap) w2:=by
  cases lo with
  | none =>
    have e1:l=0:=by simpa [bnd] using hl.symm
    subst e1
    cases hi with
    | none =>
              have e2:h=len:=by simpa [bnd] using hh.symm
              subst e2; simp [Instr.sliceBounds]
    | some y=>simp [Instr.sliceBounds,sX w2 hs hh h2]
  | some x =>
    cases hi with
    | none =>
              have e2:h=len:=by simpa [bnd] using hh.symm
              subst e2; simp [Instr.sliceBounds,sX w2 hs hl h1]
    | some y=>simp [Instr.sliceBounds,sX w2 hs hh h2,sX w2 hs hl h1]
-- aGu
theorem aNu {o:Oper} {σ:St} {x:Operand} (ho:o.op=.move x):iM P o σ (σ.ev x) :=
  fun act w p hs _=>⟨act.eval x,fun w2=>by simp [execOp,ho],dS hs x⟩
-- aA0
theorem aQn {o:Oper} {σ:St} {op:BinOp} {t yt:TypeId} {x y:Operand} {u v r:Value} (ho:o.op=.binOp op t x y yt) (hx:σ.ev x=.s u) (hy:σ.ev y=.s v)
    (h:oQ P op t u v=some r):iM P o σ (.s r):=by
  intro act w p hs _
  refine⟨r,?_,.s r⟩
  have e1:=oP hs hx
  have e2:=oP hs hy
  intro w2
  have:=aLn (P:=P) h x y w2
  simp only[execOp,ho,e1,e2]
  rw[Sem.run_bind,this]
  simp
-- aJ5
theorem wF {o:Oper} {σ:St} {x:Operand} {t u:TypeId} {f off n:Nat} {cs:List AV} (ho:o.op=.fieldAddr t x f) (ht:field? P t f=some (off,u)) (hu:cells? P u=some n) (h0:n≠0)
    (hx:σ.ev x=.adr cs):iM P o σ (.adr (cs.drop off)):=by
  intro act w p hs _
  obtain ⟨fs,fd,e1,e2,rfl,rfl⟩:=field?_inv ht
  have h1:=dS hs x
  rw[hx] at h1
  generalize hv:act.eval x=v at *
  cases h1 with
  | adr _ b off f hb hkk hcc hr =>
    refine⟨.pointer (some ⟨b,off+fd.offset,none⟩),fun w2=>by simp [execOp,ho,hv,Instr.fieldAt,Instr.sureAddr,run_underlying e1,e2,mN hu h0,hH],.adr _ b _ (fun i=>f (fd.offset+i)) hb (fun c hc=>hkk c (List.mem_of_mem_drop hc)) (fun i c hi=>?_) (fun i c hi=>?_)⟩
    · rw[List.getElem?_drop] at hi
      rw[Nat.add_assoc]; exact hcc _ c hi
    · rw[List.getElem?_drop] at hi
      exact hr _ c hi
-- pQ
theorem wE {o:Oper} {σ:St} {x:Operand} {t u:TypeId} {f off n:Nat} {g k j i:Nat} (ho:o.op=.fieldAddr t x f) (ht:field? P t f=some (off,u)) (hu:cells? P u=some n) (h0:n≠0)
    (hx:σ.ev x=.ref g k j i):iM P o σ (.ref g k j (i+off)):=by
  intro act w p hs _
  obtain ⟨fs,fd,e1,e2,rfl,rfl⟩:=field?_inv ht
  have h1:=dS hs x
  rw[hx] at h1
  generalize hv:act.eval x=v at *
  cases h1 with
  | ref _ _ _ _ b hg =>
    refine⟨.pointer (some ⟨b,j*k+(i+fd.offset),none⟩),fun w2=>by simp [execOp,ho,hv,Instr.fieldAt,Instr.sureAddr,run_underlying e1,e2,mN hu h0,hH,Nat.add_assoc],.ref _ _ _ _ b hg⟩
-- pP
theorem wD {o:Oper} {σ:St} {x i:Operand} {t e:TypeId} {g k off m:Nat} {kd:IntKind} {n:Int} (ho:o.op=.indexAddr t x i) (ht:elem? P t=some e) (hk:cells? P e=some k)
    (hx:σ.ev x=.own g k off m) (hi:σ.ev i=.s (.int kd n)) (hn:0≤n∧n<m):iM P o σ (.ref g k (off+n.toNat) 0):=by
  intro act w p hs _
  have h1:=dS hs x
  rw[hx] at h1
  have e2:=oP hs hi
  obtain ⟨h0,hlt⟩:=hn
  generalize hv:act.eval x=v at *
  cases h1 with
  | ownn=>omega
  | own0=>omega
  | own _ _ _ _ b cap cur T hg hnc hcap hh hsz =>
    refine⟨.pointer (some ⟨b,off*k+n.toNat*k,none⟩),?_,?_⟩
    · intro w2
      simp [execOp,ho,hv,e2,Instr.indexAt,asIntOf,run_underlying (elem?_inv ht),h0,hlt,dR hk,hH]
    · have:off*k+n.toNat*k=(off+n.toNat)*k+0:=by rw[Nat.add_mul]; rfl
      rw[this]; exact .ref _ _ _ _ b hg
-- aAz
theorem aCr {o:Oper} {σ:St} {x:Operand} {lo hi:Option Operand} {t e k l h:Nat} {xs:List (List AV)} (ho:o.op=.slice t x lo hi none) (ht:elem? P t=some e) (hk:cells? P e=some k)
    (hx:σ.ev x=.sl k xs) (hl:bnd σ 0 lo=some l) (hh:bnd σ xs.length hi=some h) (h1:l≤h) (h2:h≤xs.length):iM P o σ (.sl k ((xs.take h).drop l)):=by
  intro act w p hs _
  have hr:=dS hs x
  rw[hx] at hr
  generalize hv:act.eval x=v at *
  have hlen:((xs.take h).drop l).length=h - l:=by simp; omega
  cases hr with
  | sln _ a cap hcap =>
    simp only[List.length_nil,Nat.le_zero] at h2
    subst h2
    have:l=0:=by omega
    subst this
    refine⟨.slice a 0 cap,?_,by simpa using RelV.sln k a cap hcap⟩
    intro w2
    have hb:=aAw (P:=P) w2 hs hl hh (Nat.le_refl _) (Nat.zero_le cap)
    simp only[List.length_nil] at hb
    cases a <;> simp [execOp,ho,hv,Instr.sliceAt,Instr.slice,run_underlying (elem?_inv ht),hb,dR hk,hH,Addr.add]
  | slc _ _ b off cap f hb hn hcap hkk hc hr =>
    have hbd:=fun w2=>aAw (P:=P) w2 hs hl hh h1 (Nat.le_trans h2 hn)
    by_cases hlh:l=h
    · subst hlh
      refine⟨.slice (if cap=l then some ⟨b,off,none⟩ else some ⟨b,off+l*k,none⟩) 0 (cap - l),?_,?_⟩
      · intro w2
        simp [execOp,ho,hv,Instr.sliceAt,Instr.slice,run_underlying (elem?_inv ht),hbd w2,dR hk,hH]
      · have e:(xs.take l).drop l=[]:=List.eq_nil_of_length_eq_zero (by rw[hlen]; omega)
        rw[e]; exact .sln k _ _ (by omega)
    · have hcl:¬ cap=l:=by omega
      refine⟨.slice (some ⟨b,off+l*k,none⟩) (h - l) (cap - l),?_,?_⟩
      · intro w2
        simp [execOp,ho,hv,Instr.sliceAt,Instr.slice,run_underlying (elem?_inv ht),hbd w2,dR hk,hH,hcl]
      · have hget:∀ j y,((xs.take h).drop l)[j]?=some y→xs[l+j]?=some y:=fun j y hy=>by
          rw[List.getElem?_drop,List.getElem?_take] at hy
          split at hy
          · exact hy
          · cases hy
        have:=RelV.slc (w:=w) (p:=p) k ((xs.take h).drop l) b (off+l*k) (cap - l) (fun j i=>f (l+j) i) hb (by rw[hlen]; omega) (by omega) (fun y hy=>hkk y (List.mem_of_mem_take (List.mem_of_mem_drop hy)))
          (fun j y i c hj hi=>by
            have:=hc (l+j) y i c (hget j y hj) hi
            have e:off+l*k+j*k+i=off+(l+j)*k+i:=by rw[Nat.add_mul]; omega
            rw[e]; exact this)
          (fun j y i c hj hi=>hr (l+j) y i c (hget j y hj) hi)
        rwa [hlen] at this
-- uL
theorem aOx {ops:Array Oper} {Q:Exit→St→Prop} {fuel:Nat} {listed:Array Bool} {σ:St} {o:Oper} {d:Nat} {av:AV} (i:Nat) (hi:ops[i]?=some o) (hns:Region.noSelect ops=true) (hr:(Region.ready .any ops listed).contains i=true) (hfree:Region.free .any ops listed i=true)
    (hg:o.guard=none) (hdst:o.dst=some d) (hd:d<σ.n) (hQ:∀ c σ,¬ Q (.panic c) σ) (hp:iM P o σ av) (h:oZ P w0 p0 ops Q fuel (listed.setIfInBounds i true) (σ.put d av)):oZ P w0 p0 ops Q (fuel+1) listed σ:=by
  intro a w hrel
  obtain ⟨h1,h2,p,hE,hs,hm⟩:=hrel
  obtain ⟨v,hrun,hrv⟩:=hp a w p hs hm
  have hput:Rel w0 p0 (σ.put d av) (a.put (some d) v) w:=Rel.putO (σ:=σ) ⟨h1,h2,p,hE,hs,hm⟩ (some d) (fun x hx=>by cases hx; exact hd) av v (fun q hE' hs' hm'=>?_)
  · refine wpAny_first hi (Region.noSelect_spec hns) (fun c a w hq=>?_) fuel listed a w (Region.free_spec hi hfree) (by simpa using hr) (v:=v) (.inl ⟨by simp [Region.wanted,hg],hrun⟩) ?_
    · obtain ⟨σ',h,_⟩:=hq; exact absurd h (hQ c σ')
    · rw[hdst]; exact h _ _ hput
  · obtain ⟨v',hrun',hrv'⟩:=hp a w q hs' hm'
    have:=(hrun w).symm.trans (hrun' w)
    cases this
    exact hrv'
section
variable {n d ty:Nat} {ps:String} {af:Array Edge} {gd:Option (Nat×Bool)} {sl:List (Nat×AV)} {m:Mem}
theorem dL {x:Operand} {a:AV} (hx:ev sl x=some a):iM P ⟨some d,.move x,ty,ps,af,gd⟩ ⟨n,sl,m⟩ a:=cQ (n:=n) (m:=m) hx ▸ aNu rfl
theorem w_bin {op:BinOp} {t yt:TypeId} {x y:Operand} {u v r:Value} (hx:ev sl x=some (.s u)) (hy:ev sl y=some (.s v)) (h:oQ P op t u v=some r):iM P ⟨some d,.binOp op t x y yt,ty,ps,af,gd⟩ ⟨n,sl,m⟩ (.s r):=aQn rfl (cQ hx) (cQ hy) h
theorem aGh {t yt:TypeId} {x y:Operand} {a b:Int} (hx:ev sl x=some (.s (.int .i64 a))) (hy:ev sl y=some (.s (.int .i64 b))) (h1:-9223372036854775808≤a+b) (h2:a+b≤9223372036854775807):iM P ⟨some d,.binOp .add t x y yt,ty,ps,af,gd⟩ ⟨n,sl,m⟩ (.s (.int .i64 (a+b))) :=
  w_bin hx hy (by simp [oQ,wJ,wrap_i64 h1 h2])
theorem aPs {t yt:TypeId} {x y:Operand} {a b:Int} (hx:ev sl x=some (.s (.int .i64 a))) (hy:ev sl y=some (.s (.int .i64 b))) (h1:-9223372036854775808≤a - b) (h2:a - b≤9223372036854775807):iM P ⟨some d,.binOp .sub t x y yt,ty,ps,af,gd⟩ ⟨n,sl,m⟩ (.s (.int .i64 (a - b))) :=
  w_bin hx hy (by simp [oQ,wJ,wrap_i64 h1 h2])
theorem lP {x i:Operand} {t e g k off c:Nat} {kd:IntKind} {z:Int} (hx:ev sl x=some (.own g k off c)) (hi:ev sl i=some (.s (.int kd z))) (ht:elem? P t=some e) (hc:cells? P e=some k) (hn:0≤z∧z<c) :
    iM P ⟨some d,.indexAddr t x i,ty,ps,af,gd⟩ ⟨n,sl,m⟩ (.ref g k (off+z.toNat) 0):=wD rfl ht hc (cQ hx) (cQ hi) hn
theorem lQ {x:Operand} {t u f off c:Nat} {cs cs':List AV} (hx:ev sl x=some (.adr cs)) (ht:field? P t f=some (off,u)) (hu:cells? P u=some (c+1)) (he:cs.drop off=cs'):iM P ⟨some d,.fieldAddr t x f,ty,ps,af,gd⟩ ⟨n,sl,m⟩ (.adr cs') :=
  he ▸ wF rfl ht hu (Nat.succ_ne_zero _) (cQ hx)
theorem vP {x:Operand} {t u f off c g k j i i':Nat} (hx:ev sl x=some (.ref g k j i)) (ht:field? P t f=some (off,u)) (hu:cells? P u=some (c+1)) (he:i+off=i'):iM P ⟨some d,.fieldAddr t x f,ty,ps,af,gd⟩ ⟨n,sl,m⟩ (.ref g k j i') :=
  he ▸ wE rfl ht hu (Nat.succ_ne_zero _) (cQ hx)
theorem aCy {x:Operand} {lo hi:Option Operand} {t e k l h:Nat} {xs ys:List (List AV)} (hx:ev sl x=some (.sl k xs)) (ht:elem? P t=some e) (hc:cells? P e=some k)
    (hl:bnd ⟨n,sl,m⟩ 0 lo=some l) (hh:bnd ⟨n,sl,m⟩ xs.length hi=some h) (h1:l≤h) (h2:h≤xs.length) (he:(xs.take h).drop l=ys):iM P ⟨some d,.slice t x lo hi none,ty,ps,af,gd⟩ ⟨n,sl,m⟩ (.sl k ys):=he ▸ aCr rfl ht hc (cQ hx) hl hh h1 h2
theorem bY {ops:Array Oper} {Q:Exit→St→Prop} {fuel:Nat} {listed listed':Array Bool} {op:Op} {av:AV} (i:Nat) (hi:ops[i]?=some ⟨some d,op,ty,ps,af,none⟩) (hns:Region.noSelect ops=true) (hr:((Region.ready .any ops listed).contains i&&Region.free .any ops listed i)=true) (hl:listed.setIfInBounds i true=listed')
    (hd:lt d n=true) (hQ:∀ c σ,¬ Q (.panic c) σ) (hp:iM P ⟨some d,op,ty,ps,af,none⟩ ⟨n,sl,m⟩ av) (h:oZ P w0 p0 ops Q fuel listed' ⟨n,(d,av)::sl,m⟩):oZ P w0 p0 ops Q (fuel+1) listed ⟨n,sl,m⟩:=by
  subst hl
  simp only[Bool.and_eq_true] at hr
  exact aOx i hi hns hr.1 hr.2 rfl rfl (nC hd) hQ hp h
end
end Go.Abs
set_option linter.unusedVariables false
set_option linter.unusedSimpArgs false
namespace Go.Abs
open Go Go.RowKit
variable {P:Program}
def arr? (P:Program) (t:TypeId):Option (Nat×TypeId):=match P.underlying t with
  | some (.array n e)=>some (n,e)
  | _=>none
theorem arr?_inv {t:TypeId} {n e:Nat} (h:arr? P t=some (n,e)):P.underlying t=some (.array n e):=by
  unfold arr? at h
  split at h
  · rename_i h'; cases h; exact h'
  · cases h
section
variable {n:Nat} {sl:List (Nat×AV)} {m:Mem} {d ty:Nat} {ps:String} {af:Array Edge} {gd:Option (Nat×Bool)}
end
end Go.Abs
set_option linter.unusedVariables false
set_option linter.unusedSimpArgs false
namespace Go.Abs
open Go Go.RowKit
variable {P:Program} {w0:World} {p0:Hp}
def scopeQ (Q:Exit→St→Prop):Exit→St→Prop
  | .goto _,_=>False
  | e,σ=>Q e σ
theorem aTz {c:Code} {σ:St} {Q:Exit→St→Prop} (h:AW P w0 p0 c σ (scopeQ Q)):AW P w0 p0 (.scope c) σ Q:=by
  intro a w hr
  refine wp_scope_straight (wp_mono (h a w hr) ?_)
  rintro e a' w' ⟨σ',h1,h2⟩
  cases e <;> first | exact⟨σ',h1,h2⟩ | exact h1.elim
theorem aT0 {id:Nat} {σ:St} {Q:Exit→St→Prop} (h:Q .normal σ):AW P w0 p0 (.label id) σ Q :=
  fun _ _ hr=>wp_label ⟨σ,h,hr⟩
end Go.Abs
set_option linter.unusedVariables false
set_option linter.unusedSimpArgs false
namespace Go.Abs
open Go Go.RowKit Go.Sort Go.Proofs
variable {P:Program}
section
variable {α:Type} [Inhabited α] {enc:α→Value}
end
end Go.Abs
set_option linter.unusedVariables false
set_option linter.unusedSimpArgs false
namespace Go.Abs
open Go Go.RowKit Go.Sort Go.Proofs
variable {P:Program}
end Go.Abs
set_option linter.unusedVariables false
set_option linter.unusedSimpArgs false
namespace Go.Abs
open Go Go.RowKit Go.Sort Go.Proofs Go.Lib
variable {P:Program}
section
variable {α:Type} [Inhabited α] {enc:α→Value}
end
end Go.Abs
set_option linter.unusedVariables false
set_option linter.unusedSimpArgs false
namespace Go.Abs
open Go Go.RowKit Go.ChangeShapes Go.WideShapes Go.ChangeAt
variable {P:Program} {H:Type} {enc:TypeId×Value→H}
abbrev sD:Hp:=gI fun _=>False
theorem tG {W W':World} {q:Hp} (h:Ext W sD W' q):Below W.heap.size W W' :=
  ⟨h.os,h.tape.1,h.output,h.size,fun k hk=>(h.stab k ⟨hk,(fun _ h=>by cases h),fun h=>h⟩).2⟩
theorem aPz {W:World} {b:Nat} (h:b<W.heap.size):Stable W sD b:=⟨h,(fun _ h=>by cases h),fun h=>h⟩
theorem aF5 {W W':World} (h:Below W.heap.size W W') (may:MemPlace→Prop):W.keptBut W' may:=by
  refine⟨h.os,h.output,fun i hi=>?_⟩
  rw[h.block i hi]
  cases hw:W.heap[i]? with
  | none=>simp
  | some o=>cases o <;> simp
theorem wM {W W':World} (hl:laidOutB P=true) {sp:Nat→Bool} (hsame:∀ b,b<W.heap.size→W'.heap[b]?=W.heap[b]?):∀ {ts:List TypeId} {vs:List Value} {ds:List (DataW H)} {ps:List MemPlace},
    (∀ t∈ts,P.readableRec t=true∧t<P.types.size)→DataW.TrodAll enc P W 0 (fun _=>true) true ts vs ds ps→(∀ p∈ps,p.block<W.heap.size)→(∀ p∈ps,W.sameAt W' p)→(∀ p∈ps,sp p.block=true)→DataW.TrodAll enc P W' 0 sp true ts vs ds ps
  | [],[],[],ps,_,h,_,_,_=>h
  | t::ts,v::vs,d::ds,ps,hr,⟨p,q,h1,h2,e⟩,hlt,hsm,hs=>by
    subst e
    exact⟨p,q,WideElems.Trod_stays hl (hr t (by simp)).1 (hr t (by simp)).2 h1 (fun x hx=>hsm x (by simp [hx])) (fun x hx=>hs x (by simp [hx])),
      wM hl hsame (fun t ht=>hr t (by simp [ht])) h2 (fun x hx=>hlt x (by simp [hx])) (fun x hx=>hsm x (by simp [hx])) (fun x hx=>hs x (by simp [hx])),rfl⟩
theorem zS {fn:Func} {s:ChangeSpec} {apart fresh handsOn again:Bool} {W W':World} {args:Array Value} {ds gs:List (DataW H)} {before:List MemPlace} {t:TypeId}
    (hW:DataW.Whole enc P fn.params.toList s.vars apart W args.toList ds gs before) (hb:Below W.heap.size W W') (hl:laidOutB P=true) (hr:∀ t∈fn.params.toList,P.readableRec t=true∧t<P.types.size)
    (hv:s.vars=[]) (hs:gs=[]→s.fn H ds={ results:=[.lit (.bool true)],args:=ds }) (hres:fn.resultTypes=#[t]) (hone:fn.resultTypes.size=1) (ht:P.underlying t=some .bool) :
    s.post enc P fn apart fresh handsOn again W args (.bool true) W':=by
  have hW':=hW
  obtain ⟨p,q,hA,hV,rfl,hfz,hnd⟩:=hW
  rw[hv] at hV
  have hg:gs=[]∧q=[]:=by
    cases gs with
    | nil=>exact⟨rfl,hV⟩
    | cons g gs=>exact hV.elim
  obtain ⟨rfl,rfl⟩:=hg
  have hlt:=DataW.TrodAll.lt hA
  have hold:∀ x∈p,(fun b=>decide (b<W.heap.size)) x.block=true:=fun x hx=>by simpa using hlt x hx
  have hres':∀ (b:Nat) (sp:Nat→Bool) (hd:Bool),DataW.TrodAll enc P W' b sp hd fn.resultTypes.toList ((Value.bool true).resultList fn.resultTypes.size) [DataW.lit (.bool true)] []:=fun b sp hd=>by
    rw[hres]; exact trodAll_cons_mk (shut_bool ht _) trodAll_mk0
  have hargs:∀ sp:Nat→Bool,(∀ x∈p,sp x.block=true)→DataW.TrodAll enc P W' 0 sp true fn.params.toList args.toList ds p:=fun sp hsp =>
    wM hl hb.block hr hA hlt (fun x hx=>hb.same (hlt x hx)) hsp
  have hvars:∀ sp:Nat→Bool,DataW.TrodVars enc P W' sp s.vars ([]:List (DataW H)) []:=fun sp=>by rw[hv]; rfl
  refine⟨ds,[],p++[],[],p,[],hW',?_,?_,?_,World.keptBut_mono (fun x hx=>⟨hx,.inr (.inl (by simpa using hx))⟩) (aF5 hb _),fun _=>?_⟩
  · rw[List.append_nil,hs rfl]; exact hres' _ _ _
  · rw[List.append_nil,hs rfl]; exact hargs _ hold
  · rw[List.append_nil,hs rfl]; exact hvars _
  · refine⟨ok_one hres rfl (okWide_bool_mk ht _),_,_,([]++p)++[],⟨[]++p,[],trodAll_append (hargs _ fun _ _=>rfl) (hres' _ _ _),hvars _,rfl,?_,?_⟩,?_⟩
    · intro b off hp
      have hp':MemPlace.cell b off∈p:=by simpa using hp
      have e:W'.heap[b]?=W.heap[b]?:=hb.block b (hlt _ hp')
      simp only[World.frozen?,e]
      exact hfz b off (by simpa using hp')
    · intro ha
      simpa using hnd ha
    · intro x hx _
      simpa using hx
end Go.Abs
set_option linter.unusedVariables false
set_option linter.unusedSimpArgs false
namespace Go.Abs
open Go Go.RowKit Go.ChangeShapes Go.WideShapes Go.ChangeAt
variable {P:Program} {H:Type} {enc:TypeId×Value→H}
mutual
def Ty:TD→List AV→Prop
  | .bool,cs=>∃ b,cs=[.s (.bool b)]
  | .int k,cs=>∃ n,cs=[.s (.int k n)]∧(Lit.int k n).wf=true
  | .str,cs=>∃ s:ByteArray,cs=[.s (.string s)]∧s.size≤140737488351232
  | .sl b d,cs=>∃ xs,cs=[.sl d.n xs]∧xs.length≤9223372036854775807∧xs.length*b≤140737488351232∧∀ x∈xs,Ty d x
  | .agg ds,cs=>TyL ds cs
def TyL:List TD→List AV→Prop
  | [],cs=>cs=[]
  | d::r,cs=>∃ a b,cs=a++b∧Ty d a∧TyL r b
end
theorem aC0:∀ (k:Nat) (d:TD),SizeOf.sizeOf d<k→∀ cs,Ty d cs→cs.length=d.n
  | 0,d,h,_,_=>by omega
  | k+1,.bool,_,cs,⟨b,h⟩=>by subst h; simp [TD.n]
  | k+1,.int _,_,cs,⟨n,h,_⟩=>by subst h; simp [TD.n]
  | k+1,.str,_,cs,⟨s,h,_⟩=>by subst h; simp [TD.n]
  | k+1,.sl _ _,_,cs,⟨xs,h,_⟩=>by subst h; simp [TD.n]
  | k+1,.agg ds,hk,cs,h=>by
    simp only[TD.n]
    simp only[Ty] at h
    have:∀ (ds:List TD),SizeOf.sizeOf ds<k→∀ cs,TyL ds cs→cs.length=TD.nL ds:=by
      intro ds
      induction ds with
      | nil=>intro _ cs h; simp only[TyL] at h; subst h; simp [TD.nL]
      | cons d r ih =>
        intro hs cs h
        simp only[TyL] at h
        obtain ⟨a,b,rfl,ha,hb⟩:=h
        have h1:=aC0 k d (by simp at hs; omega) a ha
        have h2:=ih (by simp at hs; omega) b hb
        simp [TD.nL,h1,h2]
    exact this ds (by simp at hk; omega) cs h
theorem zM {d:TD} {cs:List AV} (h:Ty d cs):cs.length=d.n:=aC0 _ d (Nat.lt_succ_self _) cs h
theorem RelL.app {w:World} {p:Hp} {a b:List AV} {x y:List Value} (h:RelL w p a x) (k:RelL w p b y):RelL w p (a++b) (x++y):=by
  refine⟨by simp [h.1,k.1],fun i c v hc hv=>?_⟩
  by_cases hi:i<a.length
  · rw[List.getElem?_append_left hi] at hc
    rw[List.getElem?_append_left (by rw[← h.1]; exact hi)] at hv
    exact h.2 i c v hc hv
  · rw[List.getElem?_append_right (by omega)] at hc
    rw[List.getElem?_append_right (by rw[← h.1]; omega),← h.1] at hv
    exact k.2 _ c v hc hv
theorem RelL.one {w:World} {p:Hp} {c:AV} {v:Value} (h:RelV w p c v):RelL w p [c] [v]:=by
  refine⟨rfl,fun i c' v' hc hv=>?_⟩
  cases i with
  | zero=>simp at hc hv; subst hc; subst hv; exact h
  | succ i=>simp at hc
section
variable {W:World} {base:Nat} {sp:Nat→Bool} {held:Bool}
theorem jZ {e:TypeId} {q:Nat}:∀ {l:List (DataW H)} {d:DataW H},d∈l→q∈d.weights P e→q∈DataW.weightsAll P e l
  | [],_,h,_=>by simp at h
  | x::l,d,h,hq=>by
    simp only[DataW.weightsAll,List.mem_append]
    rcases List.mem_cons.1 h with rfl | h
    · exact .inl hq
    · exact .inr (jZ h hq)
theorem lI {q:Nat}:∀ {ts:List TypeId} {ds:List (DataW H)} {i:Nat} {t:TypeId} {d:DataW H},ts[i]?=some t→ds[i]?=some d→q∈d.weights P t→q∈DataW.weightsEach P ts ds
  | [],_,_,_,_,h,_,_=>by simp at h
  | _::_,[],_,_,_,_,h,_=>by simp at h
  | t0::ts,d0::ds,i,t,d,ht,hd,hq=>by
    simp only[DataW.weightsEach,List.mem_append]
    cases i with
    | zero=>simp at ht hd; subst ht; subst hd; exact .inl hq
    | succ i=>exact .inr (lI (i:=i) (by simpa using ht) (by simpa using hd) hq)
def tU (P:Program) (t:TypeId) (d:DataW H):Prop:=∀ q∈d.weights P t,q≤reachBytes
theorem lU {ts us:List TypeId} {ds gs:List (DataW H)} (h:(DataW.weightsEach P (ts++us) (ds++gs)).all (·≤reachBytes)=true) {i:Nat} {t:TypeId} {d:DataW H} (ht:ts[i]?=some t) (hd:ds[i]?=some d):tU P t d:=by
  intro q hq
  simp only[List.all_eq_true,decide_eq_true_eq] at h
  have h1:=(List.getElem?_eq_some_iff.1 ht).1
  have h2:=(List.getElem?_eq_some_iff.1 hd).1
  exact h q (lI (i:=i) (by rw[List.getElem?_append_left h1]; exact ht) (by rw[List.getElem?_append_left h2]; exact hd) hq)
def Cells (W:World) (d:TD) (vs:List Value):Prop:=∃ cs,Ty d cs∧RelL W sD cs vs∧∀ c∈cs,c.leaf=true
theorem aJ3 (f:TypeId→Option TD) (IH:∀ t d,f t=some d→∀ fuel vs x,DataW.trod enc P W base sp held fuel t vs=some x→tU P t x.1→Cells W d vs) :
    ∀ (segs:List (Nat×TypeId)) (o:Nat) (ds:List TD) (vs:List Value),iY P f o segs=some ds →
      (∀ s∈segs,∃ fuel x,DataW.trod enc P W base sp held fuel s.2 ((vs.drop s.1).take (P.cellsOf s.2))=some x∧tU P s.2 x.1)→o+TD.nL ds=vs.length →
      ∃ cs,TyL ds cs∧RelL W sD cs (vs.drop o)∧∀ c∈cs,c.leaf=true:=by
  intro segs
  induction segs with
  | nil =>
    intro o ds vs h _ hl
    simp only[iY,Option.some.injEq] at h
    subst h
    simp only[TD.nL,Nat.add_zero] at hl
    refine⟨[],by simp [TyL],⟨by simp [hl],fun i c v hc _=>by simp at hc⟩,by simp⟩
  | cons s r ih =>
    intro o ds vs h hx hl
    obtain ⟨off,t⟩:=s
    simp only[iY] at h
    split at h
    · rename_i d hd
      split at h
      · rename_i hc
        obtain ⟨rfl,hn⟩:=hc
        cases hr:iY P f (off+d.n) r with
        | none=>simp [hr] at h
        | some es =>
          simp only[hr,Option.map_some,Option.some.injEq] at h
          subst h
          simp only[TD.nL] at hl
          obtain ⟨fuel,x,hx1,hw1⟩:=hx (off,t) (by simp)
          obtain ⟨a,ha1,ha2,ha3⟩:=IH t d hd fuel _ x hx1 hw1
          obtain ⟨b,hb1,hb2,hb3⟩:=ih (off+d.n) es vs hr (fun s hs=>hx s (by simp [hs])) (by omega)
          refine⟨a++b,by simp only[TyL]; exact⟨a,b,rfl,ha1,hb1⟩,?_,fun c hc=>(List.mem_append.1 hc).elim (ha3 c) (hb3 c)⟩
          have e:vs.drop off=(vs.drop off).take (P.cellsOf t)++vs.drop (off+d.n):=by
            rw[← hn,← List.drop_drop]; exact(List.take_append_drop _ _).symm
          rw[e]
          exact ha2.app hb2
      · cases h
    · cases h
theorem aGs:∀ (n:Nat) (t:TypeId) (d:TD),tdOf? P n t=some d→∀ fuel vs x,DataW.trod enc P W base sp held fuel t vs=some x→tU P t x.1→Cells W d vs:=by
  intro n
  induction n with
  | zero=>intro t d h; simp [tdOf?] at h
  | succ n ih =>
    intro t d h fuel vs x hx hlw
    unfold tdOf? at h
    split at h
    · rename_i ht; cases h
      obtain ⟨b,rfl,_⟩:=DataW.trod_bool ht hx
      exact⟨[.s (.bool b)],by simp only[Ty]; exact⟨b,rfl⟩,.one (.s _),by simp [AV.leaf,Value.oneCell']⟩
    · rename_i k ht; cases h
      obtain ⟨z,rfl,_,hw⟩:=DataW.trod_int ht hx
      exact⟨[.s (.int k z)],by simp only[Ty]; exact⟨z,rfl,hw⟩,.one (.s _),by simp [AV.leaf,Value.oneCell']⟩
    · rename_i ht; cases h
      obtain ⟨s,rfl,rfl,hw⟩:=DataW.trod_string ht hx
      have hws:=hlw s.data.toList.length (by simp [DataW.weights])
      exact⟨[.s (.string s)],by simp only[Ty]; exact⟨s,rfl,by simpa [reachBytes] using hws⟩,.one (.s _),by simp [AV.leaf,Value.oneCell']⟩
    · rename_i e ht
      split at h
      · rename_i de hde
        split at h
        · rename_i hn
          obtain ⟨hn,hpos⟩:=hn
          cases h
          have hmx:maxLen=9223372036854775807:=rfl
          rcases Go.Deep.open_slice ht hx with ⟨rfl,_⟩ | ⟨a,len,cap,m,fu,D,Pl,rfl,_,hl,hm,hmm,hxe,hel⟩
          · exact⟨[.sl de.n []],by simp only[Ty]; exact⟨[],rfl,by simp,by simp,by simp⟩,.one (.sln _ _ _ (by simp [maxLen])),by simp [AV.leaf]⟩
          · have hlm:len≤m:=by rw[hmm]; split <;> omega
            have hlen48:len*P.bytesOf e≤140737488351232:=by
              have h0:=hlw ((((List.range len).map D).length+((List.range (m - len)).map fun j=>D (len+j)).length)*P.bytesOf e) (by rw[hxe]; simp [DataW.weights,ht])
              have h1:len*P.bytesOf e≤(((List.range len).map D).length+((List.range (m - len)).map fun j=>D (len+j)).length)*P.bytesOf e:=Nat.mul_le_mul_right _ (by simp)
              have:reachBytes=140737488351232:=rfl
              omega
            have hlD:∀ i,i<len→tU P e (D i):=fun i hi q hq=>hlw q (by
              rw[hxe]
              simp only[DataW.weights,ht,List.mem_cons,List.mem_append]
              exact .inr (.inl (jZ (List.mem_map.2 ⟨i,by simpa using hi,rfl⟩) hq)))
            have key:∀ i,i<len→∃ q:List AV×List Value,Ty de q.1∧RelL W sD q.1 q.2∧(∀ c∈q.1,c.leaf=true)∧W.cells? base (a.add (i*P.cellsOf e)) (P.cellsOf e)=some q.2:=by
              intro i hi
              obtain ⟨cs',h1,h2⟩:=hel i (by omega)
              obtain ⟨cs,k1,k2,k3⟩:=ih e de hde fu cs' _ h2 (hlD i hi)
              exact⟨(cs,cs'),k1,k2,k3,h1⟩
            obtain ⟨g,hg⟩:=Go.Deep.choose_lt key
            by_cases h0:len=0
            · subst h0
              exact⟨[.sl de.n []],by simp only[Ty]; exact⟨[],rfl,by simp,by simp,by simp⟩,.one (.sln _ _ _ hm),by simp [AV.leaf]⟩
            · have hcell:∀ j i,j<len→i<de.n→W.cell? ((a.add (j*de.n)).add i)=(g j).2[i]?:=by
                intro j i hj hi
                have:=(hg j hj).2.2.2
                rw[← hn] at this
                exact(World.cells?_some this).2.2 i hi
              have hlen:∀ j,j<len→(g j).1.length=de.n∧(g j).2.length=de.n:=by
                intro j hj
                have h1:=zM (hg j hj).1
                exact⟨h1,by rw[← (hg j hj).2.1.1,h1]⟩
              have hspot:a.spot=none:=by
                have h1:=hcell 0 0 (by omega) hpos
                cases hs:a.spot with
                | none=>rfl
                | some x =>
                  exfalso
                  have h2:(g 0).2[0]?≠none:=by
                    have:=(hlen 0 (by omega)).2
                    rw[List.getElem?_eq_getElem (by omega)]; simp
                  rw[← h1] at h2
                  apply h2
                  have:((a.add (0*de.n)).add 0)=a:=by simp [Addr.add]
                  rw[this]
                  simp only[World.cell?,hs]
                  split <;> simp
              have hblk:a.block<W.heap.size:=by
                have h1:=hcell 0 0 (by omega) hpos
                have h2:(g 0).2[0]?≠none:=by
                  have:=(hlen 0 (by omega)).2
                  rw[List.getElem?_eq_getElem (by omega)]; simp
                rw[← h1] at h2
                have:((a.add (0*de.n)).add 0)=a:=by simp [Addr.add]
                rw[this] at h2
                simp only[World.cell?] at h2
                split at h2
                · rename_i h; exact(Array.getElem?_eq_some_iff.1 h).1
                · exact absurd rfl h2
              obtain ⟨b,off,spot⟩:=a
              simp only at hspot hblk
              subst hspot
              have hll:((List.range len).map fun j=>(g j).1).length=len:=by simp
              have hget:∀ (j:Nat) x,((List.range len).map fun j=>(g j).1)[j]?=some x→j<len∧x=(g j).1:=by
                intro j x hj
                rw[List.getElem?_map] at hj
                cases hq:(List.range len)[j]? with
                | none=>simp [hq] at hj
                | some s =>
                  obtain ⟨h1,h2⟩:=List.getElem?_eq_some_iff.1 hq
                  simp at h1 h2
                  subst h2
                  simp [hq] at hj
                  exact⟨h1,hj.symm⟩
              have ty:∀ x∈(List.range len).map fun j=>(g j).1,Ty de x:=by
                intro x hxm
                obtain ⟨j,hj,rfl⟩:=List.mem_map.1 hxm
                exact(hg j (by simpa using hj)).1
              have key:=RelV.slc (w:=W) (p:=sD) de.n ((List.range len).map fun j=>(g j).1) b off cap (fun j i=>((g j).2[i]?).getD undef) (aPz hblk) (by rw[hll]; exact hl) hm
                (fun x hxm=>by
                  obtain ⟨j,hj,rfl⟩:=List.mem_map.1 hxm
                  have hj':j<len:=by simpa using hj
                  exact⟨(hlen j hj').1,(hg j hj').2.2.1⟩)
                (fun j x i c hj hi=>by
                  obtain ⟨hj',rfl⟩:=hget j x hj
                  have hi':i<de.n:=by rw[← (hlen j hj').1]; exact(List.getElem?_eq_some_iff.1 hi).1
                  have h1:=hcell j i hj' hi'
                  rw[hH,hH] at h1
                  rw[h1,List.getElem?_eq_getElem (by rw[(hlen j hj').2]; exact hi')]
                  rfl)
                (fun j x i c hj hi=>by
                  obtain ⟨hj',rfl⟩:=hget j x hj
                  have hi':i<de.n:=by rw[← (hlen j hj').1]; exact(List.getElem?_eq_some_iff.1 hi).1
                  have hv:(g j).2[i]?=some ((g j).2[i]'(by rw[(hlen j hj').2]; exact hi')):=List.getElem?_eq_getElem _
                  rw[hv]
                  exact(hg j hj').2.1.2 i c _ hi hv)
              rw[hll] at key
              exact⟨[.sl de.n ((List.range len).map fun j=>(g j).1)],by simp only[Ty]; exact⟨_,rfl,by rw[hll]; omega,by rw[hll]; exact hlen48,ty⟩,.one key,by simp [AV.leaf]⟩
        · cases h
      · cases h
    · rename_i fs ht
      split at h
      · rename_i ds hds
        split at h
        · rename_i hn
          cases h
          obtain ⟨xs,fu,_,hxe,hlen,hxl,hf⟩:=DataW.trod_struct ht hx
          obtain ⟨cs,h1,h2,h3⟩:=aJ3 (tdOf? P n) (fun t d h=>ih t d h) _ 0 ds vs hds (fun s hs=>by
            obtain ⟨f,hfm,rfl⟩:=List.mem_map.1 hs
            obtain ⟨i,hi⟩:=List.getElem?_of_mem hfm
            have h4:=hf i f (by simpa using hi)
            cases hq:xs[i]? with
            | none =>
              exfalso
              have h5:=(List.getElem?_eq_some_iff.1 hi).1
              simp at h5 hq
              omega
            | some y =>
              refine⟨fu,y,by rw[h4,hq],fun q hq'=>hlw q ?_⟩
              rw[hxe]
              simp only[DataW.weights,ht]
              exact lI (i:=i) (by rw[List.getElem?_map,hi]; rfl) (by rw[List.getElem?_map,hq]; rfl) hq') (by rw[hn,hlen]; omega)
          exact⟨cs,by simp only[Ty]; exact h1,h2,h3⟩
        · cases h
      · cases h
    · rename_i m e ht
      split at h
      · rename_i ds hds
        split at h
        · rename_i hn
          cases h
          obtain ⟨xs,fu,_,hxe,hlen,hxl,hf⟩:=DataW.trod_array ht hx
          obtain ⟨cs,h1,h2,h3⟩:=aJ3 (tdOf? P n) (fun t d h=>ih t d h) _ 0 ds vs hds (fun s hs=>by
            obtain ⟨i,him,rfl⟩:=List.mem_map.1 hs
            have hi:i<m:=by simpa using him
            have h4:=hf i hi
            cases hq:xs[i]? with
            | none=>exfalso; simp at hq; omega
            | some y =>
              refine⟨fu,y,by rw[h4,hq],fun q hq'=>hlw q ?_⟩
              rw[hxe]
              simp only[DataW.weights,ht]
              exact jZ (List.mem_map.2 ⟨y,List.mem_of_getElem? hq,rfl⟩) hq') (by rw[hn,hlen]; omega)
          exact⟨cs,by simp only[Ty]; exact h1,h2,h3⟩
        · cases h
      · cases h
    · cases h
theorem aP5 {r:Reach} {b0 n:Nat} {t:TypeId} {v:Value} {d:DataW H} {ps:List MemPlace} {ds:List TD} (ht:tdOf? P n t=some (.agg ds)) (hag:agg? P t=some true)
    (hval:Value.okWide P W r b0 t v) (hd:DataW.Trod enc P W base sp held t v d ps) (hw:tU P t d):∃ cs,TyL ds cs∧RelV W sD (.agg cs) v:=by
  obtain ⟨fuel,hf⟩:=hd
  obtain ⟨cs,h1,h2,h3⟩:=aGs n t _ ht fuel _ _ hf hw
  simp only[Ty] at h1
  have:∃ us:Array Value,v=.agg us:=by
    unfold agg? at hag
    unfold Value.okWide at hval
    cases hu:P.underlying t with
    | none=>simp [hu] at hag
    | some q =>
      rw[hu] at hval
      cases q <;> simp_all <;> (obtain ⟨cs,h,_⟩:=hval; exact⟨cs,h⟩)
  obtain ⟨us,rfl⟩:=this
  refine⟨cs,h1,.agg _ _ (by simpa [Value.cells] using h2.1) (fun i c u hc hu=>h2.2 i c u hc (by simpa [Value.cells] using hu))⟩
theorem yK {r:Reach} {b0 n:Nat} {t:TypeId} {v:Value} {d:DataW H} {ps:List MemPlace} {dd:TD} (ht:tdOf? P n t=some dd) (hag:agg? P t=some false)
    (hval:Value.okWide P W r b0 t v) (hd:DataW.Trod enc P W base sp held t v d ps) (hw:tU P t d):∃ c,Ty dd [c]∧RelV W sD c v:=by
  obtain ⟨fuel,hf⟩:=hd
  obtain ⟨cs,h1,h2,h3⟩:=aGs n t _ ht fuel _ _ hf hw
  have:v.cells=#[v]:=by
    unfold agg? at hag
    unfold Value.okWide at hval
    cases hu:P.underlying t with
    | none=>simp [hu] at hag
    | some q =>
      rw[hu] at hval
      cases n with
      | zero=>simp [tdOf?] at ht
      | succ n =>
        unfold tdOf? at ht
        rw[hu] at ht
        cases q <;> simp at ht hag <;> (simp only[Cell.okWide,hu] at hval; cases v <;> simp_all[Cell.ok,Value.cells])
  rw[this] at h2
  obtain ⟨hl,hp⟩:=h2
  match cs,hl with
  | [c],_=>exact⟨c,h1,hp 0 c v rfl rfl⟩
end
theorem sO {α:Type} (enc:α→List AV) (ok:α→Prop) {d:TD} (h:∀ cs,Ty d cs→∃ a,cs=enc a∧ok a):∀ {xs:List (List AV)},(∀ x∈xs,Ty d x)→∃ l:List α,xs=l.map enc∧∀ a∈l,ok a
  | [],_=>⟨[],rfl,by simp⟩
  | x::xs,hx=>by
    obtain ⟨a,rfl,ha⟩:=h x (hx x (by simp))
    obtain ⟨l,rfl,hl⟩:=sO enc ok h (xs:=xs) (fun y hy=>hx y (by simp [hy]))
    exact⟨a::l,rfl,by simpa using ⟨ha,hl⟩⟩
theorem wf_i64 {n:Int} (h:(Lit.int .i64 n).wf=true):-9223372036854775808≤n∧n≤9223372036854775807:=by
  simp [Lit.wf,IntKind.min,IntKind.max,IntKind.bits,IntKind.signed] at h
  omega
end Go.Abs
set_option linter.unusedVariables false
namespace Go.Abs
theorem bs:(∀ b:Bool,((!b)=true)=(b=false))∧(∀ b:Bool,((!b)=false)=(b=true))∧((!true)=false)∧((!false)=true)∧(∀ b:Bool,(!!b)=b)∧(∀ (p:Prop) [Decidable p],(decide p=true)=p)∧(∀ (p:Prop) [Decidable p],(decide p=false)↔¬ p)
   ∧(∀ a b:Int,((a == b)=true)↔a=b)∧(∀ a b:Int,((a == b)=false)↔¬ a=b)∧(∀ a b:Int,((a != b)=true)↔¬ a=b)∧(∀ a b:Int,((a != b)=false)↔a=b)∧(∀ a b:Int,(¬ a<b)↔b≤a)∧(∀ a b:Int,(¬ a≤b)↔b<a)∧(∀ a b:Nat,(¬ a<b)↔b≤a)∧(∀ a b:Nat,(¬ a≤b)↔b<a)
   ∧(∀ a b:Int,a > b↔b<a)∧(∀ a b:Int,a≥b↔b≤a)∧(∀ a b:Nat,a > b↔b<a)∧(∀ a b:Nat,a≥b↔b≤a)∧(∀ a b:Bool,((a&&b)=true)=(a=true∧b=true))∧(∀ a b:Bool,((a||b)=true)=(a=true∨b=true))∧(∀ a b:Nat,((a:Int)<(b:Int))↔a<b)∧(∀ a b:Nat,((a:Int)≤(b:Int))↔a≤b)∧(∀ a b:Nat,((a:Int)=(b:Int))↔a=b)
   ∧(∀ {α:Type} [BEq α] [LawfulBEq α] (a b:α),((a == b)=true)↔a=b)∧(∀ {α:Type} [BEq α] [LawfulBEq α] (a b:α),((a == b)=false)↔a≠b)∧(∀ {α:Type} [BEq α] [LawfulBEq α] (a b:α),((a != b)=true)↔a≠b)∧(∀ {α:Type} [BEq α] [LawfulBEq α] (a b:α),((a != b)=false)↔a=b)∧(∀ {α:Type} (a b:α),(a≠b)=¬ a=b)
   ∧(∀ {α β:Type} (f:α→β) (l:List α),(l.map f).length=l.length)∧(∀ {α:Type} (a:α) (l:List α),(a::l).length=l.length+1)∧(∀ {α:Type},([]:List α).length=0)∧(∀ {α:Type} (a b:List α),(a++b).length=a.length+b.length) :=
  ⟨fun _=>Bool.not_eq_true' _,fun _=>Bool.not_eq_false' _,Bool.not_true,Bool.not_false,Bool.not_not,fun p _=>decide_eq_true_eq,fun p _=>decide_eq_false_iff_not,fun _ _=>beq_iff_eq,fun _ _=>beq_eq_false_iff_ne,fun _ _=>bne_iff_ne,fun _ _=>bne_eq_false_iff_eq,fun _ _=>Int.not_lt,fun _ _=>Int.not_le,fun _ _=>Nat.not_lt,fun _ _=>Nat.not_le,
   fun _ _=>Iff.rfl,fun _ _=>Iff.rfl,fun _ _=>Iff.rfl,fun _ _=>Iff.rfl,Bool.and_eq_true,Bool.or_eq_true,fun _ _=>Int.ofNat_lt,fun _ _=>Int.ofNat_le,fun _ _=>Int.natCast_inj,
   fun _ _=>beq_iff_eq,fun _ _=>beq_eq_false_iff_ne,fun _ _=>bne_iff_ne,fun _ _=>bne_eq_false_iff_eq,fun _ _=>ne_eq _ _,fun _ _=>List.length_map _,fun _ _=>List.length_cons,List.length_nil,fun _ _=>List.length_append⟩
end Go.Abs
set_option linter.unusedVariables false
set_option linter.unusedSimpArgs false
namespace Go.Abs
open Go Go.RowKit
variable {P:Program} {w0:World} {p0:Hp}
def E1:Nat:=1048577
def G1:Nat:=1000001
abbrev Ren:=List (Nat×Nat)
def iT (ρ:Ren):Ren:=ρ.map fun x=>(x.2,x.1)
mutual
def AV.ren (ρ:Ren):AV→AV
  | .own g k off n=>match bU ρ g with
    | some g'=>.own g' k off n
    | none=>.bad
  | .ref g k j f=>match bU ρ g with
    | some g'=>.ref g' k j f
    | none=>.bad
  | .agg cs=>.agg (renL ρ cs)
  | .tup cs=>.tup (renL ρ cs)
  | .fn f cs=>.fn f (renL ρ cs)
  | .s v=>.s v
  | .sl k xs=>.sl k xs
  | .adr cs=>.adr cs
  | .bad=>.bad
def renL (ρ:Ren):List AV→List AV
  | []=>[]
  | c::cs=>c.ren ρ::renL ρ cs
end
theorem yJ (ρ:Ren):∀ cs:List AV,renL ρ cs=cs.map (AV.ren ρ)
  | []=>rfl
  | c::cs=>by rw[renL,yJ ρ cs]; rfl
theorem aDp {ρ:Ren}:∀ {cs:List AV},cs.all AV.still=true→renL ρ cs=cs
  | [],_=>rfl
  | c::cs,h=>by
    rw[List.all_cons,Bool.and_eq_true] at h
    rw[renL,aDp h.2]
    congr 1
    cases c <;> first | rfl | (simp [AV.still] at h)
theorem aJ1 {ρ:Ren} {c:AV} (h:c.leaf=true):c.ren ρ=c:=by
  cases c <;> first | rfl | (simp [AV.leaf] at h; done) | (rw[AV.ren,aDp h])
theorem RelV.ren {w:World} {p q:Hp} {ρ:Ren} (hs:∀ b,Stable w p b→Stable w q b) (hn:∀ g g' x,bU ρ g=some g'→p.o g=some x→q.o g'=some x) {a:AV} {v:Value} (h:RelV w p a v):RelV w q (a.ren ρ) v:=by
  induction h with
  | s v=>exact .s v
  | agg cs vs hl _ ih =>
    rw[AV.ren,yJ]
    refine .agg _ _ (by simpa using hl) fun i c v h1 h2=>?_
    rw[List.getElem?_map] at h1
    cases hi:cs[i]? with
    | none=>simp [hi] at h1
    | some c'=>simp [hi] at h1; subst h1; exact ih i c' v hi h2
  | tup cs vs hl _ ih =>
    rw[AV.ren,yJ]
    refine .tup _ _ (by simpa using hl) fun i c v h1 h2=>?_
    rw[List.getElem?_map] at h1
    cases hi:cs[i]? with
    | none=>simp [hi] at h1
    | some c'=>simp [hi] at h1; subst h1; exact ih i c' v hi h2
  | fn f cs vs hl _ ih =>
    rw[AV.ren,yJ]
    refine .fn _ _ _ (by simpa using hl) fun i c v h1 h2=>?_
    rw[List.getElem?_map] at h1
    cases hi:cs[i]? with
    | none=>simp [hi] at h1
    | some c'=>simp [hi] at h1; subst h1; exact ih i c' v hi h2
  | sln k a cap hcap=>exact .sln k a cap hcap
  | slc k xs b off cap f hb hn' hcap hkk hc _ ih =>
    refine .slc k xs b off cap f (hs b hb) hn' hcap hkk hc fun j x i c hj hi=>?_
    have:=ih j x i c hj hi
    rwa [aJ1 ((hkk x (List.mem_of_getElem? hj)).2 c (List.mem_of_getElem? hi))] at this
  | ownn g k hg =>
    rw[AV.ren]; split
    · rename_i g' h; exact .ownn _ _ (hn g g' _ h hg)
    · exact .bad _
  | own g k off n b cap cur T hg h1 h2 h3 h4 =>
    rw[AV.ren]; split
    · rename_i g' h; exact .own _ _ _ _ _ _ _ _ (hn g g' _ h hg) h1 h2 h3 h4
    · exact .bad _
  | own0 g k off b a hg =>
    rw[AV.ren]; split
    · rename_i g' h; exact .own0 _ _ _ _ _ (hn g g' _ h hg)
    · exact .bad _
  | adr cs b off f hb hkk hc _ ih =>
    refine .adr cs b off f (hs b hb) hkk hc fun i c hi=>?_
    have:=ih i c hi
    rwa [aJ1 (hkk c (List.mem_of_getElem? hi))] at this
  | ref g k j f b hg =>
    rw[AV.ren]; split
    · rename_i g' h; exact .ref _ _ _ _ _ (hn g g' _ h hg)
    · exact .bad _
  | bad v=>exact .bad v
def rO (ρ:Ren):Bool:=decide (ρ.map Prod.fst).Nodup&&decide (ρ.map Prod.snd).Nodup
theorem oH {α:Type}:∀ {l:List (Nat×α)} {k:Nat} {a:α},bU l k=some a→(k,a)∈l
  | [],_,_,h=>by cases h
  | (d,x)::r,k,a,h=>by
    rw[dB] at h
    split at h
    · rename_i e; cases h; subst e; exact List.mem_cons_self
    · exact List.mem_cons_of_mem _ (oH h)
theorem yP {α:Type}:∀ {l:List (Nat×α)} {k:Nat} {a:α},(l.map Prod.fst).Nodup→(k,a)∈l→bU l k=some a
  | (d,x)::r,k,a,hn,h=>by
    rw[dB]
    rw[List.map_cons,List.nodup_cons] at hn
    rcases List.mem_cons.1 h with e | h
    · cases e; rw[if_pos rfl]
    · have:(k:Nat)∈r.map Prod.fst:=List.mem_map.2 ⟨_,h,rfl⟩
      rw[if_neg (fun e=>hn.1 (by rw[e]; exact this)),yP hn.2 h]
theorem aK0 (ρ:Ren):(iT ρ).map Prod.fst=ρ.map Prod.snd:=by simp [iT]
theorem aTp (ρ:Ren):(iT ρ).map Prod.snd=ρ.map Prod.fst:=by simp [iT]
theorem aRk (ρ:Ren):iT (iT ρ)=ρ:=by simp [iT,Function.comp_def]
theorem kS {ρ:Ren} (h:rO ρ=true) {e g:Nat}:bU (iT ρ) g=some e↔bU ρ e=some g:=by
  simp only[rO,Bool.and_eq_true,decide_eq_true_eq] at h
  constructor
  · intro hl
    have:=oH hl
    simp only[iT,List.mem_map,Prod.mk.injEq,Prod.exists] at this
    obtain ⟨a,b,hm,rfl,rfl⟩:=this
    exact yP h.1 hm
  · intro hl
    exact yP (by rw[aK0]; exact h.2) (List.mem_map.2 ⟨_,oH hl,rfl⟩)
theorem aGn {ρ:Ren} (h:rO ρ=true):rO (iT ρ)=true:=by
  simp only[rO,Bool.and_eq_true,decide_eq_true_eq] at h ⊢
  exact⟨by rw[aK0]; exact h.2,by rw[aTp]; exact h.1⟩
def fN:Ren→Mem→Mem
  | [],_=>[]
  | (e,g)::r,m=>match bU m g with
    | some a=>(e,a)::fN r m
    | none=>fN r m
theorem aKa {ρ:Ren} {m:Mem} {e:Nat}:e ∉ ρ.map Prod.fst→bU (fN ρ m) e=none:=by
  induction ρ with
  | nil=>intro _; rfl
  | cons x r ih =>
    obtain ⟨e0,g0⟩:=x
    intro h
    simp only[List.map_cons,List.mem_cons,not_or] at h
    rw[fN]; split
    · rw[dB,if_neg (fun e=>h.1 e.symm)]; exact ih h.2
    · exact ih h.2
theorem oE {m:Mem}:∀ {ρ:Ren},(ρ.map Prod.fst).Nodup→∀ e,bU (fN ρ m) e=(bU ρ e).bind (bU m)
  | [],_,_=>rfl
  | (e0,g0)::r,h,e=>by
    rw[List.map_cons,List.nodup_cons] at h
    rw[fN,dB (l:=r)]
    by_cases he:e0=e
    · subst he
      rw[if_pos rfl]
      cases hg:bU m g0 with
      | none=>rw[show bU (match (none:Option AM) with | some a=>(e0,a)::fN r m | none=>fN r m) e0=bU (fN r m) e0 from rfl,aKa h.1]; exact hg.symm
      | some a=>show bU ((e0,a)::fN r m) e0=_; rw[dB,if_pos rfl]; exact hg.symm
    · rw[if_neg he,← oE h.2 e]
      cases hg:bU m g0 with
      | none=>rfl
      | some a=>show bU ((e0,a)::fN r m) e=_; rw[dB,if_neg he]
def AM.isBuf:AM→Bool
  | .buf _ _=>true
  | _=>false
def aEx (m:Mem):Bool:=m.all fun x=>x.2.isBuf
theorem aHa {m:Mem} (h:aEx m=true) {g:Nat} {a:AM} (hl:bU m g=some a):a.isBuf=true:=List.all_eq_true.1 h _ (oH hl)
theorem AMRel.rename {w:World} {p q:Hp} (hs:∀ b,Stable w p b→Stable w q b) {g g':Nat} {a:AM} (hb:a.isBuf=true) (ho:∀ x,p.o g=some x→q.o g'=some x) (h:AMRel w p g a):AMRel w q g' a:=by
  cases a with
  | box cs=>cases hb
  | buf k xs =>
    rcases h with ⟨h1,h2⟩ | ⟨b,cur,T,h1,h2,h3,h4,h5⟩
    · exact .inl ⟨h1,ho _ h2⟩
    · refine .inr ⟨b,cur,T,ho _ h1,h2,h3,h4,fun j y i c hy hc=>?_⟩
      obtain ⟨u,hu,hr⟩:=h5 j y i c hy hc
      exact⟨u,hu,hr.move (ok:=fun _=>false) (fun b hb=>⟨hs b hb,rfl⟩) (fun _ _ h _=>by cases h) (AV.clean_of_leaf ((h4 y (List.mem_of_getElem? hy)).2 c (List.mem_of_getElem? hc)))⟩
structure TookX (w:World) (o:aHk) (w':World):Prop where
  os:w'.os=w.os
  tape:w'.tape=w.tape∧w.drawn≤w'.drawn
  output:w'.output=w.output
  size:w.heap.size≤w'.heap.size
  same:∀ b,b<w.heap.size→(∀ g,o g≠some (some b))→w'.heap[b]?=w.heap[b]?
def DenX (P:Program) (f:Nat) (args:List AV) (m0:Mem) (Q:AV→Mem→Prop):Prop :=
  ∀ (A:Nat→Prop) (w:World) (o:aHk) (vals:List Value),(∀ b,A b→b<w.heap.size)→(∀ g,g<E0→o g=none)→MemRel w ⟨o,A⟩ m0→RelL w ⟨o,A⟩ args vals →
    Calls P f vals.toArray w (fun e w'=>∃ v r m1 o',e=.returned v∧Q r m1∧TookX w o w'∧(∀ g b,o' g=some (some b)→(∃ g',o g'=some (some b))∨w.heap.size≤b)∧MemRel w' ⟨o',A⟩ m1∧aEx m1=true∧RelV w' ⟨o',A⟩ r v)
theorem DenX.mono {f:Nat} {args:List AV} {m0:Mem} {Q Q':AV→Mem→Prop} (h:DenX P f args m0 Q) (hq:∀ r m,Q r m→Q' r m):DenX P f args m0 Q' :=
  fun A w o vals h1 h2 h3 h4=>(h A w o vals h1 h2 h3 h4).mono fun e w' ⟨v,r,m1,o',e1,e2,e3⟩=>⟨v,r,m1,o',e1,hq _ _ e2,e3⟩
def retX (P:Program) (fn:Func) (Q:AV→Mem→Prop):Exit→St→Prop
  | .ret,σ=>∃ σ' ρ r,Le σ σ'∧rO ρ=true∧aEx (fN ρ σ'.mem)=true∧zE P fn σ'=some r∧Q (r.ren (iT ρ)) (fN ρ σ'.mem)
  | .normal,σ=>∃ σ' ρ r,Le σ σ'∧rO ρ=true∧aEx (fN ρ σ'.mem)=true∧zE P fn σ'=some r∧Q (r.ren (iT ρ)) (fN ρ σ'.mem)
  | _,_=>False
def via (ρ:Ren) (o:aHk):aHk:=fun g=>(bU ρ g).bind o
theorem rR {ρ:Ren} {o:aHk} {g:Nat} {x:Option Nat} (h:via ρ o g=some x):∃ e,bU ρ g=some e∧o e=some x:=Option.bind_eq_some_iff.1 h
theorem aA4 {w:World} {p:Hp} {m:Mem} {A':Nat→Prop} (hm:MemRel w p m) {ρ:Ren} (hρ:rO ρ=true) (hb:aEx (fN ρ m)=true) (hst:∀ b,Stable w p b→Stable w ⟨via ρ p.o,A'⟩ b) (hav:∀ e b,via ρ p.o e=some (some b)→¬ A' b):MemRel w ⟨via ρ p.o,A'⟩ (fN ρ m):=by
  have hn1:(ρ.map Prod.fst).Nodup:=by have:=hρ; simp only[rO,Bool.and_eq_true,decide_eq_true_eq] at this; exact this.1
  refine⟨fun g hl=>?_,fun g a hl=>?_,fun g g' b h1 h2=>?_,fun g b h=>hav g b h⟩
  · rw[oE hn1] at hl
    show (bU ρ g).bind p.o=none
    cases h:bU ρ g with
    | none=>rfl
    | some e=>rw[h] at hl; exact hm.dom e hl
  · have hab:=aHa hb hl
    rw[oE hn1] at hl
    cases h:bU ρ g with
    | none=>rw[h] at hl; cases hl
    | some e =>
      rw[h] at hl
      exact(hm.holds e a hl).rename hst hab fun x hx=>by show (bU ρ g).bind p.o=some x; rw[h]; exact hx
  · obtain ⟨e1,a1,b1⟩:=rR h1
    obtain ⟨e2,a2,b2⟩:=rR h2
    have:=hm.inj e1 e2 b b1 b2
    subst this
    have c1:=(kS hρ).2 a1
    have c2:=(kS hρ).2 a2
    rw[c1] at c2; cases c2; rfl
theorem sU {w:World} {p:Hp} {ρ:Ren} {b:Nat} (h:Stable w p b):Stable w ⟨via ρ p.o,p.A⟩ b:=⟨h.1,fun g hg=>by obtain ⟨e,_,h2⟩:=rR hg; exact h.2.1 e h2,h.2.2⟩
theorem aD8 {w:World} {p:Hp} {m:Mem} (hm:MemRel w p m) {ρ:Ren} (hρ:rO ρ=true) (hb:aEx (fN ρ m)=true):MemRel w ⟨via ρ p.o,p.A⟩ (fN ρ m) :=
  aA4 hm hρ hb (fun _ h=>sU h) fun e b h=>by obtain ⟨g,_,h2⟩:=rR h; exact hm.avoid g b h2
theorem aJ2 {w:World} {p:Hp} {ρ:Ren} (hρ:rO ρ=true) {a:AV} {v:Value} (h:RelV w p a v):RelV w ⟨via ρ p.o,p.A⟩ (a.ren (iT ρ)) v :=
  h.ren (fun b hb=>sU hb) fun g g' x hl hx=>by show (bU ρ g').bind p.o=some x; rw[(kS hρ).1 hl]; exact hx
def lows (ρ:Ren):Bool:=ρ.all fun x=>Nat.ble (x.2+1) E0
theorem lows_of {ρ:Ren} (h:lows ρ=true) {e g:Nat} (hl:bU ρ e=some g):g<E0:=Nat.le_of_ble_eq_true (List.all_eq_true.1 h _ (oH hl))
theorem iH {f:Nat} {fn:Func} {c:Code} {args args':List AV} {m0 m':Mem} {Q:AV→Mem→Prop} (ρ:Ren) (hf:P.funcs[f]?=some fn) (hb:fn.body=some c) (hn:args.length≤fn.ntmps) (hargs:args.map (AV.ren ρ)=args') (hm':fN (iT ρ) m0=m')
    (hρ:rO ρ=true) (hlo:lows ρ=true) (hbf:aEx m'=true)
    (h:∀ w0 o A,Fit w0 ⟨o,A⟩→AW P w0 ⟨o,A⟩ c ⟨fn.ntmps,hP 0 args',m'⟩ (retX P fn Q)):DenX P f args m0 Q:=by
  subst hargs; subst hm'
  intro A w o vals hA hdom hmem hr
  refine calls_of_wp hf hb ?_
  have hfit:Fit w ⟨o,A⟩:=⟨hdom,hA⟩
  have hfl:rO (iT ρ)=true:=aGn hρ
  have hrel:Rel w ⟨o,A⟩ ⟨fn.ntmps,hP 0 (args.map (AV.ren ρ)),fN (iT ρ) m0⟩ { tmps:=vals.toArray++Array.replicate (fn.ntmps - vals.toArray.size) undef,defers:=[] } w:=by
    refine⟨rfl,by have:=hr.1; simp; omega,⟨via (iT ρ) o,A⟩,⟨rfl,⟨rfl,Nat.le_refl _⟩,rfl,Nat.le_refl _,rfl,fun b hb=>⟨sU (p:=⟨o,A⟩) hb,rfl⟩,fun _ _ _=>rfl,fun g y hg=>?_⟩,fun t a ht=>?_,aD8 (p:=⟨o,A⟩) hmem hfl hbf⟩
    · left
      show (bU (iT ρ) g).bind o=none
      cases hl:bU (iT ρ) g with
      | none=>rfl
      | some e =>
        have hg0:=hdom g (lows_of hlo ((kS hρ).1 hl))
        rw[show o g=some y from hg] at hg0
        cases hg0
    · obtain ⟨_,ht⟩:=kA _ 0 t a ht
      simp only[Nat.sub_zero] at ht
      rw[List.getElem?_map] at ht
      cases hi:args[t]? with
      | none=>simp [hi] at ht
      | some c' =>
        simp [hi] at ht; subst ht
        have hlt:t<vals.length:=by rw[← hr.1]; exact(List.getElem?_eq_some_iff.1 hi).1
        refine⟨vals[t]'hlt,by rw[Array.getElem?_append_left (by simpa using hlt)]; simp [hlt],?_⟩
        have:=aJ2 (p:=⟨o,A⟩) hfl (hr.2 t c' (vals[t]'hlt) hi (by simp [hlt]))
        rwa [aRk] at this
  refine wp_mono (h w o A hfit _ w hrel) ?_
  rintro e a' w' ⟨σ',hq,hrel'⟩
  have fin:(∃ σ'' ρ r,Le σ' σ''∧rO ρ=true∧aEx (fN ρ σ''.mem)=true∧zE P fn σ''=some r∧Q (r.ren (iT ρ)) (fN ρ σ''.mem))→a'.defers=[]∧∃ v,(results fn a'.tmps).run P w'=.ok v w' ∧
      ∃ v' r m1 o',Ending.returned v=.returned v'∧Q r m1∧TookX w o w'∧(∀ g b,o' g=some (some b)→(∃ g',o g'=some (some b))∨w.heap.size≤b)∧MemRel w' ⟨o',A⟩ m1∧aEx m1=true∧RelV w' ⟨o',A⟩ r v':=by
    rintro ⟨σ'',ρ',r,hle,hρ',hbs,hres,hQ⟩
    obtain ⟨h1,h2,p,hE,hs,hm⟩:=hle _ _ _ _ hrel'
    obtain ⟨v,hv,hrv⟩:=zD hs hm _ hres
    have hpA:p.A=A:=hE.A
    have hm1:=aD8 hm hρ' hbs
    have hr1:=aJ2 hρ' hrv
    rw[hpA] at hm1 hr1
    refine⟨h1,v,hv,v,_,_,via ρ' p.o,rfl,hQ,⟨hE.os,hE.tape,hE.output,hE.size,fun b hb hno=>?_⟩,fun g b hg=>?_,hm1,hbs,hr1⟩
    · by_cases hAb:A b
      · exact hE.others b hb hAb
      · exact(hE.stab b ⟨hb,hno,hAb⟩).2
    · obtain ⟨e,_,he⟩:=rR hg
      by_cases hb:b<w.heap.size
      · left
        by_cases hno:∃ g',o g'=some (some b)
        · exact hno
        · exfalso
          by_cases hAb:A b
          · exact hm.avoid e b he (hpA ▸ hAb)
          · exact(hE.stab b ⟨hb,fun g' hg'=>hno ⟨g',hg'⟩,hAb⟩).1.2.1 e he
      · right; omega
  cases e with
  | normal=>exact fin hq
  | ret=>exact fin hq
  | _=>exact hq.elim
def aKk (ks:List Nat) (a:AV):AV:=if a.clean (fun x=>!ks.contains x)=true then a else .bad
def pZ (ks:List Nat):List (Nat×AV)→List (Nat×AV)
  | []=>[]
  | (t,a)::r=>(t,aKk ks a)::pZ ks r
def aP8 (ks:List Nat):AM→AM
  | .box cs=>.box (cs.map (aKk ks))
  | .buf k xs=>.buf k xs
def mR (ks:List Nat):Mem→Mem
  | []=>[]
  | (g,m)::r=>if ks.contains g=true then mR ks r else (g,aP8 ks m)::mR ks r
theorem tR (ks:List Nat):∀ (l:List (Nat×AV)) (t:Nat),bU (pZ ks l) t=(bU l t).map (aKk ks)
  | [],_=>rfl
  | (d,a)::r,t=>by
    simp only[pZ,bU]
    split
    · rfl
    · exact tR ks r t
theorem nR (ks:List Nat):∀ (l:Mem) (t:Nat),bU (mR ks l) t=if ks.contains t=true then none else (bU l t).map (aP8 ks)
  | [],t=>by simp [mR,bU]
  | (d,m)::r,t=>by
    rw[mR]
    by_cases e:ks.contains d=true
    · rw[if_pos e,nR ks r t]
      by_cases et:ks.contains t=true
      · rw[if_pos et,if_pos et]
      · rw[if_neg et,if_neg et,dB,if_neg (fun h=>et (by rw[← h]; exact e))]
    · rw[if_neg e,dB,dB,nR ks r t]
      by_cases h:d=t
      · subst h; rw[if_pos rfl,if_pos rfl,if_neg e]; rfl
      · rw[if_neg h,if_neg h]
theorem uR {α:Type}:∀ (a b:List (Nat×α)) (t:Nat),bU (a++b) t=match bU a t with | some x=>some x | none=>bU b t
  | [],_,_=>rfl
  | (d,x)::r,b,t=>by
    rw[List.cons_append,dB,dB]
    by_cases h:d=t
    · rw[if_pos h,if_pos h]
    · rw[if_neg h,if_neg h,uR r b t]
def ends (ρ:Ren):List Nat:=ρ.map Prod.snd
theorem aK4 {ρ:Ren} (h:rO ρ=true) {g:Nat}:(ends ρ).contains g=true↔∃ e,bU ρ e=some g:=by
  have hn:(ρ.map Prod.fst).Nodup:=by have:=h; simp only[rO,Bool.and_eq_true,decide_eq_true_eq] at this; exact this.1
  simp only[List.contains_iff_mem,ends,List.mem_map,Prod.exists,exists_eq_right]
  exact⟨fun⟨e,he⟩=>⟨e,yP hn he⟩,fun⟨e,he⟩=>⟨e,oH he⟩⟩
def frees (ρ ρ':Ren) (m:Mem):Bool:=ρ'.all fun x=>Nat.ble (x.2+1) E0&&((bU m x.2).isNone||(ends ρ).contains x.2)
def highs (ρ:Ren):Bool:=ρ.all fun x=>Nat.ble E0 x.1
theorem aBb {ks:List Nat} {w w':World} {p q:Hp} (hmv:∀ a v,RelV w p a v→a.clean (fun x=>!ks.contains x)=true→RelV w' q a v) {a:AV} {v:Value} (h:RelV w p a v):RelV w' q (aKk ks a) v:=by
  unfold aKk
  split
  · rename_i hc; exact hmv a v h hc
  · exact .bad v
theorem aR1 {o:Oper} {σ:St} {K:St→Prop} (hf:Fit w0 p0) {fo:Operand} {xs:List Operand} {ts:Array TypeId} {f d:Nat} {cap args:List AV} {m0:Mem} {Q:AV→Mem→Prop} (ρ ρ':Ren)
    (ho:o.op=.call { callee:=.value fo,args:=xs.toArray,argTypes:=ts }) (hdst:o.dst=some d) (hd:d<σ.n)
    (hent:∀ args w,(callFunc f args).run P w=.ok (.enter f args) w) (hfo:σ.ev fo=.fn f cap) (hargs:(xs.map σ.ev++cap).map (AV.ren (iT ρ))=args) (hm0:fN ρ σ.mem=m0) (hbf:aEx m0=true)
    (hρ:rO ρ=true) (hhi:highs ρ=true) (hρ':rO ρ'=true) (hfr:frees ρ ρ' σ.mem=true)
    (hden:DenX P f args m0 Q) (hK:∀ r m1,Q r m1→K ⟨σ.n,(d,r.ren ρ')::pZ (ends ρ) σ.slots,fN (iT ρ') m1++mR (ends ρ) σ.mem⟩):AOp P w0 p0 o σ K:=by
  subst hm0
  intro a w next Q' ⟨h1,h2,p,hE,hs,hm⟩ hn
  obtain ⟨vals,hrun,hrel⟩:=sH (P:=P) ho hent hs hfo
  unfold Oper.wp
  rw[hrun]
  simp only[Oper.upon]
  -- what the call is given,and what it is not
  let B:Nat→Prop:=fun b=>p.A b∨∃ g,(ends ρ).contains g≠true∧p.o g=some (some b)
  have hviaE:∀ g b,via ρ p.o g=some (some b)→∃ g',(ends ρ).contains g'=true∧p.o g'=some (some b):=fun g b hg=>by
    obtain ⟨e,he1,he2⟩:=rR hg
    exact⟨e,(aK4 hρ).2 ⟨g,he1⟩,he2⟩
  have hEvia:∀ g b,(ends ρ).contains g=true→p.o g=some (some b)→∃ e,via ρ p.o e=some (some b):=fun g b hg hb=>by
    obtain ⟨e,he⟩:=(aK4 hρ).1 hg
    exact⟨e,by show (bU ρ e).bind p.o=_; rw[he]; exact hb⟩
  have hBlt:∀ b,B b→b<w.heap.size:=fun b hb=>by
    rcases hb with hb | ⟨g',_,hg'⟩
    · exact Nat.lt_of_lt_of_le (hf.others b (hE.A ▸ hb)) hE.size
    · exact hm.lt hg'
  have hstB:∀ b,Stable w p b→Stable w ⟨via ρ p.o,B⟩ b:=fun b hb=>⟨hb.1,(sU (ρ:=ρ) hb).2.1,fun h=>h.elim hb.2.2 fun⟨g,_,hg⟩=>hb.2.1 g hg⟩
  have hvB:∀ e b,via ρ p.o e=some (some b)→¬ B b:=fun e b he h=>by
    obtain ⟨g2,h2,h3⟩:=hviaE e b he
    rcases h with h | ⟨g',hg',hb'⟩
    · exact hm.avoid g2 b h3 h
    · exact hg' (hm.inj g2 g' b h3 hb' ▸ h2)
  have hmem0:MemRel w ⟨via ρ p.o,B⟩ (fN ρ σ.mem):=aA4 hm hρ hbf hstB hvB
  have hdom:∀ g,g<E0→via ρ p.o g=none:=fun g hg=>by
    show (bU ρ g).bind p.o=none
    cases hl:bU ρ g with
    | none=>rfl
    | some e =>
      have:=Nat.le_of_ble_eq_true (List.all_eq_true.1 hhi _ (oH hl))
      exact absurd hg (by simp only at this; omega)
  refine(hden B w (via ρ p.o) vals hBlt hdom hmem0 ?_).mono ?_
  · rw[← hargs]
    refine⟨by simpa using hrel.1,fun i c v hc hv=>?_⟩
    rw[List.getElem?_map] at hc
    cases hi:(xs.map σ.ev++cap)[i]? with
    | none=>simp [hi] at hc
    | some c' =>
      simp [hi] at hc; subst hc
      exact(hrel.2 i c' v hi hv).ren hstB fun g g' x hl hx=>by show (bU ρ g').bind p.o=some x; rw[(kS hρ).1 hl]; exact hx
  rintro e w' ⟨v,r,m1,o',rfl,hQ,hT,ho',hM,hbm,hr⟩
  have hsame:∀ b,b<w.heap.size→(∀ g,(ends ρ).contains g=true→p.o g≠some (some b))→w'.heap[b]?=w.heap[b]?:=fun b hb h=>hT.same b hb fun g hg=>by
    obtain ⟨g',h1,h2⟩:=hviaE g b hg
    exact h g' h1 h2
  let q:Hp:=⟨fun g=>match bU (iT ρ') g with | some e=>o' e | none=>if (ends ρ).contains g=true then none else p.o g,p.A⟩
  have hq1:∀ g e,bU (iT ρ') g=some e→q.o g=o' e:=fun g e h=>by simp only[q,h]
  have hq2:∀ g,bU (iT ρ') g=none→(ends ρ).contains g=true→q.o g=none:=fun g h h'=>by simp only[q,h,h',if_true]
  have hq3:∀ g,bU (iT ρ') g=none→(ends ρ).contains g≠true→q.o g=p.o g:=fun g h h'=>by simp only[q,h]; rw[if_neg h']
  have hqc:∀ g x,q.o g=some x→(∃ e,bU (iT ρ') g=some e∧o' e=some x)∨(bU (iT ρ') g=none∧(ends ρ).contains g≠true∧p.o g=some x):=fun g x h=>by
    cases hl:bU (iT ρ') g with
    | some e=>rw[hq1 g e hl] at h; exact .inl ⟨e,rfl,h⟩
    | none =>
      by_cases hc:(ends ρ).contains g=true
      · rw[hq2 g hl hc] at h; cases h
      · rw[hq3 g hl hc] at h; exact .inr ⟨rfl,hc,h⟩
  have hnew:∀ g e,bU (iT ρ') g=some e→g<E0∧(bU σ.mem g=none∨(ends ρ).contains g=true):=fun g e h=>by
    have:=List.all_eq_true.1 hfr _ (oH ((kS hρ').1 h))
    simp only[Bool.and_eq_true,Bool.or_eq_true,Option.isNone_iff_eq_none] at this
    exact⟨Nat.le_of_ble_eq_true this.1,this.2⟩
  have hkeepn:∀ g x,(ends ρ).contains g≠true→p.o g=some x→q.o g=some x:=fun g x hc hx=>by
    have:bU (iT ρ') g=none:=by
      cases hl:bU (iT ρ') g with
      | none=>rfl
      | some e =>
        rcases (hnew g e hl).2 with h | h
        · rw[hm.dom g h] at hx; cases hx
        · exact absurd h hc
    rw[hq3 g this hc]; exact hx
  have holdb:∀ g b,(ends ρ).contains g≠true→p.o g=some (some b)→w'.heap[b]?=w.heap[b]?:=fun g b hc hb=>hsame b (hm.lt hb) fun g' hg' hb'=>hc (hm.inj g' g b hb' hb ▸ hg')
  have ho2:∀ e b,o' e=some (some b)→(∃ g',(ends ρ).contains g'=true∧p.o g'=some (some b))∨w.heap.size≤b:=fun e b h=>by
    rcases ho' e b h with ⟨g',hg'⟩ | h
    · exact .inl (hviaE g' b hg')
    · exact .inr h
  have hstq:∀ b,Stable w p b→Stable w' q b∧w'.heap[b]?=w.heap[b]?:=fun b hb=>by
    refine⟨⟨Nat.lt_of_lt_of_le hb.1 hT.size,fun g hg=>?_,hb.2.2⟩,hsame b hb.1 fun g _=>hb.2.1 g⟩
    rcases hqc g _ hg with ⟨e,_,he⟩ | ⟨_,_,he⟩
    · rcases ho2 e b he with ⟨g',_,h⟩ | h
      · exact hb.2.1 g' h
      · exact absurd hb.1 (by omega)
    · exact hb.2.1 g he
  have hmv:∀ a v,RelV w p a v→a.clean (fun x=>!(ends ρ).contains x)=true→RelV w' q a v:=fun a v hr hc =>
    hr.move (ok:=fun x=>!(ends ρ).contains x) hstq (fun g x hok hx=>by
      have hc:(ends ρ).contains g≠true:=by simpa using hok
      exact⟨hkeepn g x hc hx,fun b hb cur T hh=>⟨cur,by subst hb; rw[holdb g b hc hx]; exact hh,rfl⟩⟩) hc
  have hE':Ext w0 p0 w' q:=by
    refine⟨hT.os.trans hE.os,⟨hT.tape.1.trans hE.tape.1,Nat.le_trans hE.tape.2 hT.tape.2⟩,hT.output.trans hE.output,Nat.le_trans hE.size hT.size,hE.A,fun b hb=>?_,fun b hb hAb=>?_,fun g' y hy=>?_⟩
    · have hst:=(hE.stab b hb).1
      exact⟨(hstq b hst).1,(hstq b hst).2.trans (hE.stab b hb).2⟩
    · rw[hsame b (Nat.lt_of_lt_of_le hb hE.size) fun g _ h=>hm.avoid g b h (hE.A ▸ hAb)]; exact hE.others b hb hAb
    · have hlf:bU (iT ρ') g'=none:=by
        cases hl:bU (iT ρ') g' with
        | none=>rfl
        | some e=>rw[hf.names g' (hnew g' e hl).1] at hy; cases hy
      by_cases hc:(ends ρ).contains g'=true
      · exact .inl (hq2 g' hlf hc)
      · rw[hq3 g' hlf hc]
        rcases hE.name g' y hy with h | ⟨h,h'⟩
        · exact .inl h
        · refine .inr ⟨h,fun b hb cur T hh=>?_⟩
          obtain ⟨c1,e1,s1⟩:=h' b hb cur T hh
          subst hb
          exact⟨c1,by rw[holdb g' b hc h]; exact e1,s1⟩
  have hstr:∀ b,Stable w' ⟨o',B⟩ b→Stable w' q b:=fun b hb=>by
    refine⟨hb.1,fun g hg=>?_,fun h=>hb.2.2 (.inl h)⟩
    rcases hqc g _ hg with ⟨e,_,he⟩ | ⟨_,hc,he⟩
    · exact hb.2.1 e he
    · exact hb.2.2 (.inr ⟨g,hc,he⟩)
  have hn1:((iT ρ').map Prod.fst).Nodup:=by have:=aGn hρ'; simp only[rO,Bool.and_eq_true,decide_eq_true_eq] at this; exact this.1
  have hm':MemRel w' q (fN (iT ρ') m1++mR (ends ρ) σ.mem):=by
    refine⟨fun g hl=>?_,fun g a hl=>?_,fun g g' b e1 e2=>?_,fun g b hg=>?_⟩
    · rw[uR,oE hn1] at hl
      cases hg:bU (iT ρ') g with
      | some e =>
        rw[hq1 g e hg]
        rw[hg] at hl
        cases he:bU m1 e with
        | none=>exact hM.dom e he
        | some a=>simp [he] at hl
      | none =>
        rw[hg] at hl
        simp only[Option.bind_none,nR] at hl
        by_cases hc:(ends ρ).contains g=true
        · exact hq2 g hg hc
        · rw[hq3 g hg hc]
          rw[if_neg hc] at hl
          exact hm.dom g (by simpa using hl)
    · rw[uR,oE hn1] at hl
      have hold:bU (mR (ends ρ) σ.mem) g=some a→AMRel w' q g a:=fun hl=>by
        rw[nR] at hl
        split at hl
        · cases hl
        · rename_i hc
          cases h0:bU σ.mem g with
          | none=>rw[h0] at hl; cases hl
          | some a0 =>
            rw[h0] at hl
            have hA:=hm.holds g a0 h0
            cases a0 with
            | box cs =>
              simp [aP8] at hl; subst hl
              obtain ⟨b,cur,T,e1,e2,e3,e4⟩:=hA
              refine⟨b,cur,T,hkeepn g _ hc e1,by rw[holdb g b hc e1]; exact e2,by simpa using e3,fun i c hc'=>?_⟩
              rw[List.getElem?_map] at hc'
              cases hi:cs[i]? with
              | none=>simp [hi] at hc'
              | some c' =>
                simp [hi] at hc'; subst hc'
                obtain ⟨u,hu,hr⟩:=e4 i c' hi
                exact⟨u,hu,aBb hmv hr⟩
            | buf k xs =>
              simp [aP8] at hl; subst hl
              rcases hA with ⟨e0,e1⟩ | ⟨b,cur,T,e1,e2,e3,e4,e5⟩
              · exact .inl ⟨e0,hkeepn g _ hc e1⟩
              · exact .inr ⟨b,cur,T,hkeepn g _ hc e1,by rw[holdb g b hc e1]; exact e2,e3,e4,fun j x i c hx hc'=>by
                  obtain ⟨u,hu,hr⟩:=e5 j x i c hx hc'
                  exact⟨u,hu,hmv c u hr (AV.clean_of_leaf ((e4 x (List.mem_of_getElem? hx)).2 c (List.mem_of_getElem? hc')))⟩⟩
      cases hg:bU (iT ρ') g with
      | none=>rw[hg] at hl; exact hold hl
      | some e =>
        rw[hg] at hl
        cases he:bU m1 e with
        | none=>simp only[Option.bind_some,he] at hl; exact hold hl
        | some a1 =>
          simp only[Option.bind_some,he] at hl; cases hl
          exact(hM.holds e _ he).rename hstr (aHa hbm he) fun x hx=>by rw[hq1 g e hg]; exact hx
    · rcases hqc g _ e1 with ⟨a1,l1,b1⟩ | ⟨l1,c1,b1⟩ <;> rcases hqc g' _ e2 with ⟨a2,l2,b2⟩ | ⟨l2,c2,b2⟩
      · have:=hM.inj a1 a2 b b1 b2
        subst this
        have d1:=(kS hρ').1 l1
        have d2:=(kS hρ').1 l2
        rw[d1] at d2; cases d2; rfl
      · exfalso
        rcases ho2 a1 b b1 with ⟨g2,h3,h4⟩ | h
        · exact c2 (hm.inj g2 g' b h4 b2 ▸ h3)
        · have:=hm.lt b2; omega
      · exfalso
        rcases ho2 a2 b b2 with ⟨g2,h3,h4⟩ | h
        · exact c1 (hm.inj g2 g b h4 b1 ▸ h3)
        · have:=hm.lt b1; omega
      · exact hm.inj g g' b b1 b2
    · rcases hqc g _ hg with ⟨a1,_,b1⟩ | ⟨_,_,b1⟩
      · exact fun h=>hM.avoid a1 b b1 (.inl h)
      · exact hm.avoid g b b1
  have hr':RelV w' q (r.ren ρ') v:=hr.ren hstr fun g g' x hl hx=>by rw[hq1 g' g ((kS hρ').2 hl)]; exact hx
  refine hn _ _ _ (hK r m1 hQ) ?_
  rw[hdst]
  refine⟨h1,by simpa [Act.put] using h2,q,hE',SlotsRel.put (fun t b hb=>?_) (by rw[h2]; exact hd) hr',hm'⟩
  rw[tR] at hb
  cases hl:bU σ.slots t with
  | none=>simp [hl] at hb
  | some c =>
    simp [hl] at hb; subst hb
    obtain ⟨u,hu,hr⟩:=hs t c hl
    exact⟨u,hu,aBb hmv hr⟩
section
variable {n:Nat} {sl:List (Nat×AV)} {m:Mem} {ops:Array Oper} {rest:List Oper} {Q:Exit→St→Prop} {d ty:Nat} {ps:String} {af:Array Edge}
theorem gO (hf:Fit w0 p0) {fo:Operand} {xs:List Operand} {ts:Array TypeId} {f:Nat} {cap args args':List AV} {m0:Mem} {R:AV→Mem→Prop} (ρ ρ':Ren) (hd:lt d n=true) (hfo:ev sl fo=some (.fn f cap)) (hargs:evs sl cap xs=some args)
    (hren:args.map (AV.ren (iT ρ))=args') (hm0:fN ρ m=m0) (hbf:aEx m0=true) (hρ:rO ρ=true) (hhi:highs ρ=true) (hρ':rO ρ'=true) (hfr:frees ρ ρ' m=true)
    (hent:∀ args w,(callFunc f args).run P w=.ok (.enter f args) w) (hden:DenX P f args' m0 R) (hk:∀ r m1,R r m1→eS P w0 p0 ops rest ⟨n,(d,r.ren ρ')::pZ (ends ρ) sl,fN (iT ρ') m1++mR (ends ρ) m⟩ Q) :
    eS P w0 p0 ops (⟨some d,.call { callee:=.value fo,args:=xs.toArray,argTypes:=ts },ty,ps,af,none⟩::rest) ⟨n,sl,m⟩ Q :=
  fR rfl (aR1 hf ρ ρ' rfl rfl (nC hd) hent (cQ hfo) (by rw[uX hargs]; exact hren) hm0 hbf hρ hhi hρ' hfr hden hk)
end
end Go.Abs
set_option linter.unusedVariables false
set_option linter.unusedSimpArgs false
namespace Go.Abs
open Go Go.RowKit
variable {P:Program} {w0:World} {p0:Hp}
theorem aK {ops:Array Oper} {Q:Exit→St→Prop} {fuel0:Nat} {listed0:Array Bool} {σ0:St} (fuel:Nat) (listed:Array Bool) (σ:St) (h:oZ P w0 p0 ops Q fuel listed σ)
    (k:oZ P w0 p0 ops Q fuel listed σ→oZ P w0 p0 ops Q fuel0 listed0 σ0):oZ P w0 p0 ops Q fuel0 listed0 σ0:=k h
theorem aQe {c:Code} {σ σ':St} {Q:Exit→St→Prop} (hl:Le σ σ') (h:AW P w0 p0 c σ' Q):AW P w0 p0 c σ Q:=fun a w hr=>h a w (hl _ _ _ _ hr)
theorem pT {ok:Nat→Bool} {mem:Mem} {g k n:Nat} {xs:List (List AV)} (hok:ok g=false) (hl:bU mem g=some (.buf k xs)) (hn:n=xs.length):(AV.own g k 0 n).only ok mem=.sl k xs:=by
  subst hn
  rw[AV.only,hok]
  simp [hl]
theorem aDx {o:Oper} {σ:St} {t e n k:Nat} {parts:List (Nat×Operand)} {zs:List Value} {cs:List AV} (ho:o.op=.build t parts.toArray) (hz:zeros? P t=some zs) (ht:arr? P t=some (n,e)) (hk:cells? P e=some k)
    (h1:∀ x∈parts,∀ c∈(σ.ev x.2).cells,c.one=true) (hc:vB (fun i=>some (i*k,k)) (zs.map .s) (parts.map fun x=>(x.1,σ.ev x.2))=some cs):cJ P o σ (.agg cs):=by
  intro act w p hs _
  obtain ⟨z,hz1,hz2⟩:=zeros?_inv hz w
  have hu:=arr?_inv ht
  have hzr:RelL w p (zs.map .s) z.cells.toList:=by
    rw[hz2]
    refine⟨by simp,fun i c v hc hv=>?_⟩
    simp [hv] at hc; subst hc; exact .s v
  obtain ⟨cells',hf,hr⟩:=yW hs (fun i=>some (i*k,k)) parts (zs.map .s) cs z.cells hzr h1 hc
  refine⟨.agg cells',?_,.agg _ _ (by simpa using hr.1) (fun i c v hc hv=>hr.2 i c v hc (by simpa using hv))⟩
  simp only[execOp,ho,Instr.build]
  simp [Sem.run_bind,hz1,run_underlying hu,dR hk]
  rw[hf]
  simp
section
variable {n:Nat} {sl:List (Nat×AV)} {m:Mem} {d ty:Nat} {ps:String} {af:Array Edge} {gd:Option (Nat×Bool)}
theorem aA2 {t e q k:Nat} {parts:List (Nat×Operand)} {zs:List Value} {ps':List (Nat×AV)} {cs:List AV} (hps:evp sl parts=some ps') (hz:zeros? P t=some zs) (ht:arr? P t=some (q,e)) (hk:cells? P e=some k)
    (h1:∀ x∈ps',∀ c∈x.2.cells,c.one=true) (hc:vB (fun i=>some (i*k,k)) (zs.map .s) ps'=some cs):cJ P ⟨some d,.build t parts.toArray,ty,ps,af,gd⟩ ⟨n,sl,m⟩ (.agg cs):=by
  have h:=aAl (n:=n) (m:=m) hps
  exact aDx rfl hz ht hk (fun x hx=>h1 (x.1,St.ev ⟨n,sl,m⟩ x.2) (h ▸ List.mem_map.2 ⟨x,hx,rfl⟩)) (h ▸ hc)
end
theorem aTm {n:Nat} {sl:List (Nat×AV)} {m:Mem} {d:Nat} {a:AV} (h:lk sl d=some a):Le ⟨n,sl,m⟩ ⟨n,(d,a)::sl,m⟩:=fun w0 p0 act w ⟨h1,h2,p,hE,hs,hm⟩=>⟨h1,h2,p,hE,fun t b hb=>by
  rw[dB] at hb
  split at hb
  · rename_i e; subst e; cases hb; exact hs d a (by rw[← kC]; exact h)
  · exact hs t b hb,hm⟩
theorem dV {x y:Code} {d:Nat} {n:Nat} {sl:List (Nat×AV)} {m:Mem} {Q:Exit→St→Prop} {t:Bool} (hc:ev sl (.tmp d)=some (.s (.bool t))) (hc2:lk sl d=some (.s (.bool t))) (h1:t=true→AW P w0 p0 x ⟨n,(d,.s (.bool true))::sl,m⟩ Q) (h2:t=false→AW P w0 p0 y ⟨n,(d,.s (.bool false))::sl,m⟩ Q):AW P w0 p0 (.cond (.tmp d) x y) ⟨n,sl,m⟩ Q :=
  aO hc (fun h=>aQe (aTm (by rw[hc2,h])) (h1 h)) (fun h=>aQe (aTm (by rw[hc2,h])) (h2 h))
theorem rA {n t:Nat} {a a':AV} {sl:List (Nat×AV)} {m:Mem} (h:∀ w p v,RelV w p a v→RelV w p a' v):Le ⟨n,(t,a)::sl,m⟩ ⟨n,(t,a')::sl,m⟩:=fun w0 p0 act w ⟨h1,h2,p,hE,hs,hm⟩=>⟨h1,h2,p,hE,fun t' b hb=>by
  have hb':bU ((t,a')::sl) t'=some b:=hb
  rw[dB] at hb'
  split at hb'
  · rename_i e; subst e; cases hb'
    obtain ⟨v,hv,hr⟩:=hs t a (by show bU ((t,a)::sl) t=_; rw[dB,if_pos rfl])
    exact⟨v,hv,h w p v hr⟩
  · rename_i hne
    exact hs t' b (by show bU ((t,a)::sl) t'=_; rw[dB,if_neg hne]; exact hb'),hm⟩
end Go.Abs
set_option linter.unusedVariables false
set_option linter.unusedSimpArgs false
namespace Go.Abs
open Go Go.RowKit
variable {P:Program} {w0:World} {p0:Hp}
theorem aN9 (hf:Fit w0 p0) (g h k i:Nat) {n:Nat} {sl:List (Nat×AV)} {m:Mem} {cs:List AV} {a:Act} {w:World} (hE:lt h E0=true) (hl:lk m h=none) (hg:lk m g=some (.box cs)) (hc:cs[i]?=some (.s (.slice none 0 0)))
    (hr:Rel w0 p0 ⟨n,sl,m⟩ a w):Rel w0 p0 ⟨n,sl,jR g (.box (cs.set i (.own h k 0 0))) ((h,.buf k [])::m)⟩ a w:=by
  obtain ⟨h1,h2,p,hX,hs,hm⟩:=hr
  rw[kC] at hl hg
  have hp0:p.o h=none:=hm.dom h hl
  have hk:Keeps w p w (p.upd h (some none)):=by
    refine⟨fun b hb=>⟨⟨hb.1,fun g hg=>?_,hb.2.2⟩,rfl⟩,fun g x hx=>?_,fun g b hg cur T hh=>⟨cur,hh,rfl⟩⟩
    · simp only[Hp.upd] at hg
      split at hg
      · cases hg
      · exact hb.2.1 g hg
    · simp only[Hp.upd]
      split
      · rename_i e; subst e; rw[hp0] at hx; cases hx
      · exact hx
  have hX':Ext w0 p0 w (p.upd h (some none)):=hX.step hk rfl ⟨rfl,Nat.le_refl _⟩ rfl (Nat.le_refl _) rfl (fun _ _ _=>rfl) (fun g h1 h2=>by
    simp only[Hp.upd] at h2
    split at h2
    · rename_i e; subst e; exact hf.names _ (nC hE)
    · exact absurd h1 h2)
  have hgh:h≠g:=fun e=>by rw[← e,hl] at hg; cases hg
  have hsome:(bU ((h,AM.buf k [])::m) g).isSome=true:=by rw[dB,if_neg hgh,hg]; rfl
  refine⟨h1,h2,_,hX',hs.keep hk,⟨fun t ht=>?_,fun t mm ht=>?_,fun t t' b e1 e2=>?_,fun t b e=>?_⟩⟩
  · replace ht:bU (jR g _ ((h,AM.buf k [])::m)) t=none:=ht
    rw[gC _ _ _ hsome] at ht
    split at ht
    · cases ht
    · rw[dB] at ht
      split at ht
      · cases ht
      · rename_i hne; simp only[Hp.upd]; rw[if_neg (fun e=>hne e.symm)]; exact hm.dom t ht
  · replace ht:bU (jR g _ ((h,AM.buf k [])::m)) t=some mm:=ht
    rw[gC _ _ _ hsome] at ht
    split at ht
    · rename_i e; subst e; cases ht
      obtain ⟨b,cur,T,e1,e2,e3,e4⟩:=hm.holds t _ hg
      refine⟨b,cur,T,hk.name _ _ e1,e2,by rw[List.length_set]; exact e3,fun j c hj=>?_⟩
      rw[List.getElem?_set] at hj
      split at hj
      · rename_i eij; subst eij
        split at hj
        · cases hj
          obtain ⟨v,v1,v2⟩:=e4 i _ hc
          cases v2
          exact⟨_,v1,.ownn h k (by simp [Hp.upd])⟩
        · cases hj
      · obtain ⟨v,v1,v2⟩:=e4 j c hj
        exact⟨v,v1,v2.keep hk⟩
    · rw[dB] at ht
      split at ht
      · rename_i e; subst e; cases ht; exact .inl ⟨rfl,by simp [Hp.upd]⟩
      · exact(hm.holds t mm ht).keep hk fun _ _=>rfl
  · simp only[Hp.upd] at e1 e2
    split at e1
    · cases e1
    · split at e2
      · cases e2
      · exact hm.inj t t' b e1 e2
  · simp only[Hp.upd] at e
    split at e
    · cases e
    · exact hm.avoid t b e
section
variable {n:Nat} {sl:List (Nat×AV)} {m:Mem} {cs:List AV} {Q:Exit→St→Prop} {ops:Array Oper} {rest:List Oper}
theorem aBc (hf:Fit w0 p0) (g h k i:Nat) (hE:lt h E0=true) (hl:lk m h=none) (hg:lk m g=some (.box cs)) (hc:cs[i]?=some (.s (.slice none 0 0)))
    (hk:eS P w0 p0 ops rest ⟨n,sl,jR g (.box (cs.set i (.own h k 0 0))) ((h,.buf k [])::m)⟩ Q):eS P w0 p0 ops rest ⟨n,sl,m⟩ Q:=fun a w hr=>hk a w (aN9 hf g h k i hE hl hg hc hr)
end
theorem aRd {n:Nat} {sl:List (Nat×AV)} {m:Mem} {cs:List AV} (g:Nat) (cs':List AV) (hg:lk m g=some (.box cs)) (h:∀ w p v,RelV w p (.agg cs) v→RelV w p (.agg cs') v):Le ⟨n,sl,m⟩ ⟨n,sl,jR g (.box cs') m⟩:=by
  intro w0 p0 a w ⟨h1,h2,p,hX,hs,hm⟩
  rw[kC] at hg
  have hsome:(bU m g).isSome=true:=by rw[hg]; rfl
  refine⟨h1,h2,p,hX,hs,⟨fun t ht=>?_,fun t mm ht=>?_,hm.inj,hm.avoid⟩⟩
  · replace ht:bU (jR g _ m) t=none:=ht
    rw[gC _ _ _ hsome] at ht
    split at ht
    · cases ht
    · exact hm.dom t ht
  · replace ht:bU (jR g _ m) t=some mm:=ht
    rw[gC _ _ _ hsome] at ht
    split at ht
    · rename_i e; subst e; cases ht
      obtain ⟨b,cur,T,e1,e2,e3,e4⟩:=hm.holds t _ hg
      have hr:RelV w p (.agg cs) (.agg cur):=.agg _ _ e3 fun i c v hc hv=>by
        obtain ⟨v',v1,v2⟩:=e4 i c hc
        rw[v1] at hv; cases hv; exact v2
      have:=h w p _ hr
      cases this with
      | agg _ _ hl hh =>
        refine⟨b,cur,T,e1,e2,hl,fun i c hc=>?_⟩
        have hi:i<cur.size:=by rw[← hl]; exact(List.getElem?_eq_some_iff.1 hc).1
        exact⟨cur[i],by simp [hi],hh i c _ hc (by simp [hi])⟩
    · exact hm.holds t mm ht
end Go.Abs
set_option linter.unusedVariables false
set_option linter.unusedSimpArgs false
namespace Go.Abs
open Go Go.RowKit
variable {P:Program} {w0:World} {p0:Hp}
structure Tf where
  c:Nat
  ag:Bool
  e:Option Nat
  fl:List (Nat×Nat)
abbrev Fx:=List (Nat×Tf)
def aTq (P:Program) (t:Nat):Nat→List (Nat×Nat)→Bool
  | _,[]=>true
  | i,q::r=>decide (field? P t i=some q)&&aTq P t (i+1) r
def tfOk (P:Program) (x:Nat×Tf):Bool :=
  decide (cells? P x.1=some x.2.c)&&(decide (agg? P x.1=some x.2.ag)&&((match x.2.e with | none=>true | some e=>decide (elem? P x.1=some e))&&aTq P x.1 0 x.2.fl))
def aOj (P:Program) (F:Fx):Bool:=F.all (tfOk P)
theorem aTj {α:Type}:∀ {l:List (Nat×α)} {t:Nat} {a:α},lk l t=some a→(t,a)∈l
  | [],_,_,h=>by cases h
  | (d,b)::r,t,a,h=>by
    simp only[lk] at h
    split at h
    · rename_i e; cases h; rw[Nat.eq_of_beq_eq_true e]; exact List.mem_cons_self ..
    · exact List.mem_cons_of_mem _ (aTj h)
theorem aIi {t:Nat}:∀ {l:List (Nat×Nat)} {i j:Nat} {q:Nat×Nat},aTq P t i l=true→l[j]?=some q→field? P t (i+j)=some q
  | [],_,_,_,_,h=>by simp at h
  | x::r,i,j,q,h,hj=>by
    simp only[aTq,Bool.and_eq_true,decide_eq_true_eq] at h
    cases j with
    | zero=>simp at hj; subst hj; exact h.1
    | succ j =>
      have:=aIi h.2 (j:=j) (by simpa using hj)
      rw[show i+(j+1)=i+1+j by omega]; exact this
section
variable {F:Fx} {t:Nat} {f:Tf}
theorem xI (hF:aOj P F=true) (h:lk F t=some f):cells? P t=some f.c∧agg? P t=some f.ag∧(∀ e,f.e=some e→elem? P t=some e)∧aTq P t 0 f.fl=true:=by
  have:=List.all_eq_true.1 hF _ (aTj h)
  simp only[tfOk,Bool.and_eq_true,decide_eq_true_eq] at this
  refine⟨this.1,this.2.1,fun e he=>?_,this.2.2.2⟩
  have h2:=this.2.2.1
  rw[he] at h2
  simpa using h2
end
def sbin (op:BinOp) (u v:Value):Option Value :=
  match u,v with
  | .int k a,.int k' b=>if k=k' then (match op with | .eql=>some (.bool (a == b)) | .neq=>some (.bool (a != b)) | .lss=>wJ .lss k a b | .leq=>wJ .leq k a b | .gtr=>wJ .gtr k a b | .geq=>wJ .geq k a b | _=>none) else none
  | .string a,.string b=>astr op a b
  | _,_=>none
theorem aQv {op:BinOp} {t:TypeId} {u v r:Value} (h:sbin op u v=some r):oQ P op t u v=some r:=by
  cases u <;> cases v <;> simp only[sbin,reduceCtorEq] at h <;> simp only[oQ]
  · split at h
    · rename_i e; rw[if_pos e]
      cases op <;> first | exact h | (simp at h)
    · cases h
  · exact h
def ldv (f:Tf) (cs:List AV):Option AV :=
  match f.ag with
  | true=>(match Nat.ble f.c cs.length with | true=>some (.agg (cs.take f.c)) | false=>none)
  | false=>cs[0]?
def aGj (F:Fx) (op:Op) (sl:List (Nat×AV)) (m:Mem):Option AV :=
  match op with
  | .move x=>ev sl x
  | .assign x=>ev sl x
  | .pick c x y=>(match ev sl c with | some (.s (.bool true))=>ev sl x | some (.s (.bool false))=>ev sl y | _=>none)
  | .binOp op _ x y _=>(match ev sl x,ev sl y with | some (.s u),some (.s v)=>(match sbin op u v with | some r=>some (.s r) | none=>none) | _,_=>none)
  | .unOp .not _ x=>(match ev sl x with | some (.s (.bool b))=>some (.s (.bool !b)) | _=>none)
  | .extract x i=>(match ev sl x with | some (.tup vs)=>vs[i]? | _=>none)
  | .load t x=>(match lk F t with
    | some f=>(match ev sl x with
      | some (.adr cs)=>ldv f cs
      | some (.ref g k j i)=>(match lk m g with | some mm=>ldv f (mm.at k j i) | none=>none)
      | _=>none)
    | none=>none)
  | .fieldAddr t x i=>(match lk F t with
    | some f=>(match f.fl[i]? with
      | some (off,u)=>(match lk F u with
        | some ⟨_+1,_,_,_⟩=>(match ev sl x with | some (.adr cs)=>some (.adr (cs.drop off)) | some (.ref g k j q)=>some (.ref g k j (q+off)) | _=>none)
        | _=>none)
      | none=>none)
    | none=>none)
  | .field t x i=>(match lk F t with
    | some f=>(match f.fl[i]? with
      | some (off,u)=>(match lk F u with
        | some fu=>(match ev sl x with
          | some (.agg cs)=>(match fu.ag with
            | true=>(match Nat.ble (off+fu.c) cs.length with | true=>some (.agg ((cs.drop off).take fu.c)) | false=>none)
            | false=>cs[off]?)
          | _=>none)
        | none=>none)
      | none=>none)
    | none=>none)
  | .call ⟨.builtin .len,⟨[x]⟩,⟨[t]⟩⟩=>(match lk F t with
    | some ⟨_,_,some _,_⟩=>(match ev sl x with
      | some (.sl _ xs)=>some (.s (.int .i64 xs.length))
      | some (.own _ _ _ c)=>some (.s (.int .i64 c))
      | some (.s (.slice none 0 0))=>some (.s (.int .i64 0))
      | _=>none)
    | _=>none)
  | _=>none
theorem ldv_adr {F:Fx} {t:Nat} {f:Tf} {x:Operand} {sl:List (Nat×AV)} {m:Mem} {n:Nat} {cs:List AV} {av:AV} {d:Nat} {ty:TypeId} {ps:String} {af:Array Edge} {gd:Option (Nat×Bool)} (hF:aOj P F=true) (hl:lk F t=some f) (hx:ev sl x=some (.adr cs)) (h:ldv f cs=some av):cJ P ⟨some d,.load t x,ty,ps,af,gd⟩ ⟨n,sl,m⟩ av:=by
  obtain ⟨h1,h2,_,_⟩:=xI hF hl
  unfold ldv at h
  split at h
  · rename_i ha
    split at h
    · rename_i hb; cases h; exact aCl hx (by rw[h2,ha]) h1 hb rfl
    · cases h
  · rename_i ha; exact aH0 hx (by rw[h2,ha]) h
theorem ldv_ref {F:Fx} {t:Nat} {f:Tf} {x:Operand} {sl:List (Nat×AV)} {m:Mem} {n g k j i:Nat} {mm:AM} {av:AV} {d:Nat} {ty:TypeId} {ps:String} {af:Array Edge} {gd:Option (Nat×Bool)} (hF:aOj P F=true) (hl:lk F t=some f) (hx:ev sl x=some (.ref g k j i)) (hm:lk m g=some mm) (h:ldv f (mm.at k j i)=some av):cJ P ⟨some d,.load t x,ty,ps,af,gd⟩ ⟨n,sl,m⟩ av:=by
  obtain ⟨h1,h2,_,_⟩:=xI hF hl
  unfold ldv at h
  split at h
  · rename_i ha
    split at h
    · rename_i hb; cases h; exact cD hx (by rw[h2,ha]) h1 hm hb rfl
    · cases h
  · rename_i ha; exact aD1 hx (by rw[h2,ha]) hm h
theorem qU {F:Fx} {op:Op} {sl:List (Nat×AV)} {m:Mem} {n:Nat} {av:AV} {d:Nat} {ty:TypeId} {ps:String} {af:Array Edge} {gd:Option (Nat×Bool)} (hF:aOj P F=true) (h:aGj F op sl m=some av):cJ P ⟨some d,op,ty,ps,af,gd⟩ ⟨n,sl,m⟩ av:=by
  unfold aGj at h
  split at h
  · exact fV h
  · exact uN h
  · split at h
    · rename_i hc; exact aS7 hc h
    · rename_i hc; exact aS8 hc h
    · cases h
  · split at h
    · rename_i hx hy
      split at h
      · rename_i hb; cases h; exact eO hx hy (aQv hb)
      · cases h
    · cases h
  · split at h
    · rename_i hx; cases h; exact p_not hx
    · cases h
  · split at h
    · rename_i hx; exact aQ7 hx h
    · cases h
  · split at h
    · rename_i hl
      split at h
      · rename_i hx; exact ldv_adr hF hl hx h
      · rename_i hx
        split at h
        · rename_i hm; exact ldv_ref hF hl hx hm h
        · cases h
      · cases h
    · cases h
  · split at h
    · rename_i hl
      split at h
      · rename_i hi
        split at h
        · rename_i hu
          obtain ⟨_,_,_,h4⟩:=xI hF hl
          obtain ⟨u1,_,_,_⟩:=xI hF hu
          have hf:=aIi h4 hi
          rw[Nat.zero_add] at hf
          split at h
          · rename_i hx; cases h; exact bM hx hf u1 rfl
          · rename_i hx; cases h; exact aQ6 hx hf u1 rfl
          · cases h
        · cases h
      · cases h
    · cases h
  · split at h
    · rename_i hl
      split at h
      · rename_i hi
        split at h
        · rename_i hu
          obtain ⟨_,_,_,h4⟩:=xI hF hl
          obtain ⟨u1,u2,_,_⟩:=xI hF hu
          have hf:=aIi h4 hi
          rw[Nat.zero_add] at hf
          split at h
          · rename_i hx
            split at h
            · rename_i ha
              split at h
              · rename_i hb; cases h; exact p_flds hx hf (by rw[u2,ha]) u1 hb rfl
              · cases h
            · rename_i ha; exact p_fld1 hx hf (by rw[u2,ha]) h
          · cases h
        · cases h
      · cases h
    · cases h
  · split at h
    · rename_i hl
      obtain ⟨_,_,h3,_⟩:=xI hF hl
      split at h
      · rename_i hx; cases h; exact aS9 hx (h3 _ rfl)
      · rename_i hx; cases h; exact aQ4 hx (h3 _ rfl)
      · rename_i hx; cases h; exact aQ5 hx (h3 _ rfl)
      · cases h
    · cases h
  · cases h
def aDj (F:Fx) (n:Nat) (ops:Array Oper) (m:Mem):Nat→List Oper→List (Nat×AV)→Option (List Oper×List (Nat×AV))
  | 0,l,sl=>some (l,sl)
  | _+1,[],_=>none
  | k+1,⟨some d,op,_,_,_,none⟩::rest,sl=>(match lt d n with
    | true=>(match aGj F op sl m with | some av=>aDj F n ops m k rest ((d,av)::sl) | none=>none)
    | false=>none)
  | k+1,⟨some d,op,_,_,_,some (j,b)⟩::rest,sl=>(match lt d n with
    | true=>(match (ops[j]?).bind (·.dst) with
      | some g=>(match lk sl g,b with
        | some (.s (.bool true)),true=>(match aGj F op sl m with | some av=>aDj F n ops m k rest ((d,av)::sl) | none=>none)
        | some (.s (.bool false)),false=>(match aGj F op sl m with | some av=>aDj F n ops m k rest ((d,av)::sl) | none=>none)
        | some (.s (.bool true)),false=>aDj F n ops m k rest ((d,.s undef)::sl)
        | some (.s (.bool false)),true=>aDj F n ops m k rest ((d,.s undef)::sl)
        | _,_=>none)
      | none=>none)
    | false=>none)
  | _+1,_::_,_=>none
theorem aE {F:Fx} {n:Nat} {ops:Array Oper} {m:Mem} {Q:Exit→St→Prop} (hF:aOj P F=true):∀ (k:Nat) {l l':List Oper} {sl sl':List (Nat×AV)} (h:aDj F n ops m k l sl=some (l',sl')) (hk:eS P w0 p0 ops l' ⟨n,sl',m⟩ Q),eS P w0 p0 ops l ⟨n,sl,m⟩ Q
  | 0,l,l',sl,sl',h,hk=>by simp only[aDj,Option.some.injEq,Prod.mk.injEq] at h; obtain ⟨rfl,rfl⟩:=h; exact hk
  | k+1,[],l',sl,sl',h,hk=>by simp [aDj] at h
  | k+1,⟨none,op,ty,ps,af,gd⟩::rest,l',sl,sl',h,hk=>by simp [aDj] at h
  | k+1,⟨some d,op,ty,ps,af,none⟩::rest,l',sl,sl',h,hk=>by
    simp only[aDj] at h
    split at h
    · rename_i hd
      split at h
      · rename_i hs; exact aI hd (qU hF hs) (aE hF k h hk)
      · cases h
    · cases h
  | k+1,⟨some d,op,ty,ps,af,some (j,b)⟩::rest,l',sl,sl',h,hk=>by
    simp only[aDj] at h
    split at h
    · rename_i hd
      split at h
      · rename_i hg
        split at h
        · rename_i hb
          split at h
          · rename_i hs; exact bF hg hb hd (aI hd (qU hF hs) (aE hF k h hk))
          · cases h
        · rename_i hb
          split at h
          · rename_i hs; exact bF hg hb hd (aI hd (qU hF hs) (aE hF k h hk))
          · cases h
        · rename_i hb; exact zK hg hb hd (aE hF k h hk)
        · rename_i hb; exact zK hg hb hd (aE hF k h hk)
        · cases h
      · cases h
    · cases h
def aAb (sl:List (Nat×AV)):List Nat→List (Nat×AV)
  | []=>[]
  | t::r=>(match lk sl t with | some a=>(t,a)::aAb sl r | none=>aAb sl r)
theorem inL_of {l:List Nat} {t:Nat} (h:t∈l):inL l t=true:=by
  induction l with
  | nil=>cases h
  | cons x l ih =>
    simp only[inL]
    rcases List.mem_cons.1 h with rfl | h
    · simp
    · rw[ih h]; split <;> rfl
theorem zZ {sl:List (Nat×AV)} {looks:List Nat}:∀ {l:List Nat},(∀ t∈l,t∈looks)→aAa looks sl (aAb sl l)
  | [],_=>trivial
  | t::r,h=>by
    simp only[aAb]
    split
    · rename_i ha
      exact⟨⟨inL_of (h t (List.mem_cons_self ..)),ha⟩,zZ fun x hx=>h x (List.mem_cons_of_mem _ hx)⟩
    · exact zZ fun x hx=>h x (List.mem_cons_of_mem _ hx)
def aPr (ops:Array Oper) (sl:List (Nat×AV)):Option (Nat×Bool)→Option Bool
  | none=>some true
  | some (j,b)=>(match (ops[j]?).bind (·.dst) with
    | some g=>(match lk sl g,b with
      | some (.s (.bool true)),true=>some true
      | some (.s (.bool false)),false=>some true
      | some (.s (.bool true)),false=>some false
      | some (.s (.bool false)),true=>some false
      | _,_=>none)
    | none=>none)
theorem aI7 {ops:Array Oper} {sl:List (Nat×AV)} {d:Nat} {op:Op} {ty:TypeId} {ps:String} {af:Array Edge} {gd:Option (Nat×Bool)} {b:Bool} (h:aPr ops sl gd=some b):jS ops ⟨some d,op,ty,ps,af,gd⟩ (fsl sl)=some b:=by
  cases gd with
  | none=>simp only[aPr] at h; simpa [jS] using h
  | some q =>
    obtain ⟨j,c⟩:=q
    simp only[aPr] at h
    simp only[jS]
    split at h
    · rename_i hg
      rw[hg]
      split at h <;> first | (rename_i hb; cases h; simp [fsl,hb]; done) | cases h
    · cases h
def aN4 (F:Fx) (n:Nat) (ops:Array Oper) (m:Mem):Nat→List Oper→List (Nat×AV)→Option (List Oper×List (Nat×AV))
  | 0,l,sl=>some (l,sl)
  | _+1,[],_=>none
  | k+1,⟨some d,op,ty,ps,af,gd⟩::rest,sl=>(match lt d n with
    | true=>(match aPr ops sl gd with
      | some true=>(match kY (aAb sl (Oper.looksAt ops ⟨some d,op,ty,ps,af,gd⟩)) with
        | true=>(match aGj F op (aAb sl (Oper.looksAt ops ⟨some d,op,ty,ps,af,gd⟩)) m with | some av=>aN4 F n ops m k rest ((d,av)::sl) | none=>none)
        | false=>none)
      | some false=>aN4 F n ops m k rest ((d,.s undef)::sl)
      | none=>none)
    | false=>none)
  | _+1,_::_,_=>none
theorem bC {F:Fx} {n:Nat} {ops:Array Oper} {m:Mem} {K:FS→Prop} (hF:aOj P F=true):∀ (k:Nat) {l l':List Oper} {sl sl':List (Nat×AV)} (h:aN4 F n ops m k l sl=some (l',sl')) (hk:pY P ops n m K l' (fsl sl')),pY P ops n m K l (fsl sl)
  | 0,l,l',sl,sl',h,hk=>by simp only[aN4,Option.some.injEq,Prod.mk.injEq] at h; obtain ⟨rfl,rfl⟩:=h; exact hk
  | k+1,[],l',sl,sl',h,hk=>by simp [aN4] at h
  | k+1,⟨none,op,ty,ps,af,gd⟩::rest,l',sl,sl',h,hk=>by simp [aN4] at h
  | k+1,⟨some d,op,ty,ps,af,gd⟩::rest,l',sl,sl',h,hk=>by
    simp only[aN4] at h
    split at h
    · rename_i hd
      split at h
      · rename_i hw
        split at h
        · rename_i hb
          split at h
          · rename_i hs; exact bN _ hd (aI7 hw) (zZ fun _ hx=>hx) hb (qU hF hs) (bC hF k h hk)
          · cases h
        · cases h
      · rename_i hw; exact bE hd (aI7 hw) (bC hF k h hk)
      · cases h
    · cases h
end Go.Abs
namespace Go.Abs
open Go Go.RowKit
theorem lf {cs:List AV} (h:cs.all AV.leaf=true):∀ c∈cs,c.leaf=true:=List.all_eq_true.1 h
theorem l1 {cs:List AV} (h:cs.all AV.one=true):∀ c∈cs,c.one=true:=List.all_eq_true.1 h
theorem l2 {xs:List (List AV)} {k:Nat} (h:xs.all (fun x=>Nat.beq x.length k&&x.all AV.leaf)=true):∀ x∈xs,x.length=k∧∀ c∈x,c.leaf=true:=fun x hx=>by
  have:=List.all_eq_true.1 h x hx
  rw[Bool.and_eq_true] at this
  exact⟨Nat.eq_of_beq_eq_true this.1,List.all_eq_true.1 this.2⟩
theorem l3 {ps:List (Nat×AV)} (h:ps.all (fun x=>x.2.cells.all AV.one)=true):∀ x∈ps,∀ c∈x.2.cells,c.one=true:=fun x hx=>List.all_eq_true.1 (List.all_eq_true.1 h x hx)
theorem l4 {mm:AM} {cs:List AV} (h:(match mm with | .box _=>true | .buf _ _=>cs.all AV.leaf)=true):∀ k xs,mm=.buf k xs→∀ c∈cs,c.leaf=true:=fun k xs e=>by
  subst e; exact List.all_eq_true.1 h
end Go.Abs
set_option linter.unusedVariables false
set_option linter.unusedSimpArgs false
namespace Go.Abs
open Go Go.RowKit
variable {P:Program} {w0:World} {p0:Hp}
def oR {α:Type} (sl:List (Nat×α)):List Nat→Option (List (Nat×α))
  | []=>some []
  | t::r=>(match lk sl t with
    | some a=>(match oR sl r with | some l=>some ((t,a)::l) | none=>none)
    | none=>none)
theorem kR {sl:List (Nat×AV)}:∀ {ks:List Nat} {sl':List (Nat×AV)},oR sl ks=some sl'→nU sl sl'
  | [],sl',h=>by simp only[oR,Option.some.injEq] at h; subst h; trivial
  | t::r,sl',h=>by
    simp only[oR] at h
    split at h
    · rename_i ha
      split at h
      · rename_i hl; cases h; exact⟨ha,kR hl⟩
      · cases h
    · cases h
theorem aDy {α:Type} {m:List (Nat×α)}:∀ {ks:List Nat} {m':List (Nat×α)},oR m ks=some m'→∀ g a,bU m' g=some a→bU m g=some a
  | [],m',h,g,a,hg=>by simp only[oR,Option.some.injEq] at h; subst h; cases hg
  | t::r,m',h,g,a,hg=>by
    simp only[oR] at h
    split at h
    · rename_i ha
      split at h
      · rename_i hl
        cases h
        rw[dB] at hg
        split at hg
        · rename_i e; subst e; cases hg; rw[← kC]; exact ha
        · exact aDy hl g a hg
      · cases h
    · cases h
def aG2 {α:Type} (m':List (Nat×α)):List (Nat×α)→Bool
  | []=>true
  | (g,_)::r=>(match lk m' g with | some _=>aG2 m' r | none=>false)
theorem aEb {α:Type} {m':List (Nat×α)}:∀ {m:List (Nat×α)},aG2 m' m=true→∀ g,bU m' g=none→bU m g=none
  | [],_,_,_=>rfl
  | (d,a)::r,h,g,hg=>by
    simp only[aG2] at h
    split at h
    · rename_i hk
      rw[dB]
      split
      · rename_i e; subst e; rw[kC] at hk; rw[hk] at hg; cases hg
      · exact aEb h g hg
    · cases h
theorem aTi {m m':Mem} (h2:oR m (m'.map Prod.fst)=some m') (h3:aG2 m' m=true):∀ g,bU m g=bU m' g:=fun g=>by
  cases h:bU m' g with
  | some a=>exact aDy h2 g a h
  | none=>exact aEb h3 g h
theorem cU {n:Nat} {sl sl':List (Nat×AV)} {m:Mem} (h:oR sl (sl'.map Prod.fst)=some sl'):Le ⟨n,sl,m⟩ ⟨n,sl',m⟩:=jU (kR h)
theorem iK {n:Nat} {sl sl':List (Nat×AV)} {m:Mem} (ks:List Nat) (h:oR sl ks=some sl'):Le ⟨n,sl,m⟩ ⟨n,sl',m⟩:=jU (kR h)
theorem mQ {n:Nat} {sl sl':List (Nat×AV)} {m m':Mem} (h:oR sl (sl'.map Prod.fst)=some sl') (h2:oR m (m'.map Prod.fst)=some m') (h3:aG2 m' m=true):Le ⟨n,sl,m⟩ ⟨n,sl',m'⟩:=aTl (kR h) (aTi h2 h3)
section
variable {ops:Array Oper} {Q:Exit→St→Prop} {fuel:Nat} {listed:Array Bool} {n:Nat} {sl sl':List (Nat×AV)} {m m':Mem}
theorem ag (hD:oZ P w0 p0 ops Q fuel listed ⟨n,sl',m'⟩) (h:oR sl (sl'.map Prod.fst)=some sl') (h2:oR m (m'.map Prod.fst)=some m') (h3:aG2 m' m=true):oZ P w0 p0 ops Q fuel listed ⟨n,sl,m⟩:=gZ (mQ h h2 h3) hD
theorem dC {K:FS→Prop} (ks:List Nat) (hK:K=fun s=>∃ σ':St,σ'.n=n∧σ'.mem=m∧jD (fun t=>some (s t)) σ'.slots∧kY σ'.slots=true∧Q .normal σ') (hc:oR sl ks=some sl') (hnb:kY sl'=true) (h:Q .normal ⟨n,sl',m⟩):pY P ops n m K [] (fsl sl):=lex_end hK (kR hc) hnb h
theorem aAc {K:FS→Prop} {r:Nat} {L:Array Bool} (ks:List Nat) (hK:K=fun s=>∃ σ':St,σ'.n=n∧σ'.mem=m∧jD (fun t=>some (s t)) σ'.slots∧kY σ'.slots=true∧oZ P w0 p0 ops Q r L σ') (hc:oR sl ks=some sl') (hnb:kY sl'=true) (h:oZ P w0 p0 ops Q r L ⟨n,sl',m⟩):pY P ops n m K [] (fsl sl):=aTk hK (kR hc) hnb h
end
theorem ao {o:Oper} {σ:St} {K:St→Prop} (hg:o.guard=none) (h:eS P w0 p0 #[] [o] σ (aP7 K)):AOp P w0 p0 o σ K:=aLj hg h
theorem ixm {α:Type} {enc:α→List AV} {l:List α} {k:Nat} (h:k<l.length):0≤((k:Nat):Int)∧(l.map enc)[((k:Nat):Int).toNat]?=some (enc l[k]):=⟨by omega,by rw[Int.toNat_natCast,List.getElem?_map,List.getElem?_eq_getElem h]; rfl⟩
end Go.Abs
set_option linter.unusedVariables false
namespace Go.Proofs.YtijnkglkchhomaaGreat
open Go Go.Abs
theorem bK:Tryz.prog.follows .mixedOrders=true:=by kernel_rfl
def Tryz.fx:Fx:=[(3,⟨1,false,none,[]⟩),(9,⟨1,false,none,[]⟩),(39,⟨6,true,none,[(0,3),(1,3),(2,34),(3,35),(4,36),(5,37)]⟩),(124,⟨2,true,none,[(0,3),(1,3)]⟩),(27,⟨6,true,none,[(0,3),(1,3),(2,22),(3,23),(4,24),(5,25)]⟩),(47,⟨6,true,none,[(0,3),(1,3),(2,9),(3,9),(4,3),(5,3)]⟩),(67,⟨6,true,none,[(0,3),(1,3),(2,9),(3,9),(4,3),(5,3)]⟩),(35,⟨1,false,some 106,[]⟩),(34,⟨1,false,some 152,[]⟩),(126,⟨4,true,none,[(0,124),(2,3),(3,3)]⟩),(36,⟨1,false,some 147,[]⟩),(23,⟨1,false,some 95,[]⟩),(63,⟨1,false,some 126,[]⟩),(99,⟨4,true,none,[(0,9),(1,9),(2,3),(3,3)]⟩),(37,⟨1,false,some 107,[]⟩),(122,⟨4,true,none,[(0,3),(1,3),(2,3),(3,3)]⟩),(22,⟨1,false,some 93,[]⟩),(152,⟨4,true,none,[(0,3),(1,9),(2,3),(3,3)]⟩),(147,⟨4,true,none,[(0,81),(2,124)]⟩),(106,⟨2,true,none,[(0,9),(1,63)]⟩),(81,⟨2,true,none,[(0,9),(1,9)]⟩),(24,⟨1,false,some 99,[]⟩),(93,⟨4,true,none,[(0,3),(1,9),(2,3),(3,3)]⟩),(25,⟨1,false,some 101,[]⟩),(28,⟨1,false,some 47,[]⟩),(61,⟨1,false,some 122,[]⟩),(107,⟨2,true,none,[(0,9),(1,3)]⟩),(95,⟨2,true,none,[(0,9),(1,61)]⟩),(101,⟨2,true,none,[(0,9),(1,3)]⟩),(145,⟨2,true,none,[(0,3),(1,3)]⟩),(32,⟨1,false,some 67,[]⟩),(40,⟨1,false,some 71,[]⟩),(71,⟨1,false,none,[]⟩),(167,⟨2,true,none,[(0,9),(1,9)]⟩),(286,⟨1,false,none,[]⟩),(76,⟨1,false,some 145,[]⟩),(78,⟨1,false,some 124,[]⟩),(189,⟨1,false,some 3,[]⟩),(237,⟨1,false,some 63,[]⟩),(261,⟨1,false,some 34,[]⟩),(263,⟨1,false,some 35,[]⟩),(284,⟨1,false,some 36,[]⟩),(129,⟨1,false,none,[]⟩),(200,⟨1,false,none,[]⟩),(194,⟨1,false,none,[]⟩),(252,⟨1,false,some 9,[]⟩)]
theorem aA:aOj Tryz.prog Tryz.fx=true:=by kernel_rfl
theorem cP:cells? Tryz.prog 3=some 1:=by kernel_rfl
theorem aQl:agg? Tryz.prog 3=some false:=by kernel_rfl
theorem cT:cells? Tryz.prog 9=some 1:=by kernel_rfl
theorem aQk:agg? Tryz.prog 9=some false:=by kernel_rfl
theorem aNr:cells? Tryz.prog 22=some 1:=by kernel_rfl
theorem sK:elem? Tryz.prog 22=some 93:=by kernel_rfl
theorem zJ:elem? Tryz.prog 23=some 95:=by kernel_rfl
theorem aNq:cells? Tryz.prog 24=some 1:=by kernel_rfl
theorem qN:elem? Tryz.prog 24=some 99:=by kernel_rfl
theorem aFi:elem? Tryz.prog 25=some 101:=by kernel_rfl
theorem aNp:cells? Tryz.prog 27=some 6:=by kernel_rfl
theorem zG:agg? Tryz.prog 27=some true:=by kernel_rfl
theorem aBl:field? Tryz.prog 27 0=some (0,3):=by kernel_rfl
theorem vE:field? Tryz.prog 27 1=some (1,3):=by kernel_rfl
theorem aBk:field? Tryz.prog 27 2=some (2,22):=by kernel_rfl
theorem aBj:field? Tryz.prog 27 4=some (4,24):=by kernel_rfl
theorem aE8:agg? Tryz.prog 28=some false:=by kernel_rfl
theorem aUg:elem? Tryz.prog 28=some 47:=by kernel_rfl
theorem gY:elem? Tryz.prog 32=some 67:=by kernel_rfl
theorem cW:appT? Tryz.prog 32=some (67,6,64):=by kernel_rfl
theorem jI:cells? Tryz.prog 34=some 1:=by kernel_rfl
theorem dY:elem? Tryz.prog 34=some 152:=by kernel_rfl
theorem jQ:appT? Tryz.prog 34=some (152,4,40):=by kernel_rfl
theorem mZ:cells? Tryz.prog 35=some 1:=by kernel_rfl
theorem eC:elem? Tryz.prog 35=some 106:=by kernel_rfl
theorem jP:appT? Tryz.prog 35=some (106,2,40):=by kernel_rfl
theorem kM:cells? Tryz.prog 36=some 1:=by kernel_rfl
theorem eV:elem? Tryz.prog 36=some 147:=by kernel_rfl
theorem jO:appT? Tryz.prog 36=some (147,4,48):=by kernel_rfl
theorem qP:cells? Tryz.prog 37=some 1:=by kernel_rfl
theorem gN:elem? Tryz.prog 37=some 107:=by kernel_rfl
theorem kX:appT? Tryz.prog 37=some (107,2,24):=by kernel_rfl
theorem bS:cells? Tryz.prog 39=some 6:=by kernel_rfl
theorem jH:agg? Tryz.prog 39=some true:=by kernel_rfl
theorem aLw:field? Tryz.prog 39 1=some (1,3):=by kernel_rfl
theorem rK:field? Tryz.prog 39 2=some (2,34):=by kernel_rfl
theorem aBi:field? Tryz.prog 39 3=some (3,35):=by kernel_rfl
theorem rJ:field? Tryz.prog 39 4=some (4,36):=by kernel_rfl
theorem vD:field? Tryz.prog 39 5=some (5,37):=by kernel_rfl
theorem kW:places? Tryz.prog 39=some [(0,1),(1,1),(2,1),(3,1),(4,1),(5,1)]:=by kernel_rfl
theorem aX:zeros? Tryz.prog 39=some [.int .i64 0,.int .i64 0,.slice none 0 0,.slice none 0 0,.slice none 0 0,.slice none 0 0]:=by kernel_rfl
theorem mX:elem? Tryz.prog 40=some 71:=by kernel_rfl
theorem sN:appT? Tryz.prog 40=some (71,1,8):=by kernel_rfl
theorem aNo:cells? Tryz.prog 47=some 6:=by kernel_rfl
theorem aUf:agg? Tryz.prog 47=some true:=by kernel_rfl
theorem aUe:zeros? Tryz.prog 47=some [.int .i64 0,.int .i64 0,.string ⟨#[]⟩,.string ⟨#[]⟩,.int .i64 0,.int .i64 0]:=by kernel_rfl
theorem sJ:elem? Tryz.prog 61=some 122:=by kernel_rfl
theorem qO:cells? Tryz.prog 63=some 1:=by kernel_rfl
theorem aLr:agg? Tryz.prog 63=some false:=by kernel_rfl
theorem cE:elem? Tryz.prog 63=some 126:=by kernel_rfl
theorem hZ:appT? Tryz.prog 63=some (126,4,32):=by kernel_rfl
theorem cY:cells? Tryz.prog 67=some 6:=by kernel_rfl
theorem iD:agg? Tryz.prog 67=some true:=by kernel_rfl
theorem iC:eqT? Tryz.prog 67=some (.agg [.int .i64,.int .i64,.str,.str,.int .i64,.int .i64]):=by kernel_rfl
theorem fD:field? Tryz.prog 67 2=some (2,9):=by kernel_rfl
theorem vC:field? Tryz.prog 67 3=some (3,9):=by kernel_rfl
theorem rI:field? Tryz.prog 67 4=some (4,3):=by kernel_rfl
theorem aBh:field? Tryz.prog 67 5=some (5,3):=by kernel_rfl
theorem jN:places? Tryz.prog 67=some [(0,1),(1,1),(2,1),(3,1),(4,1),(5,1)]:=by kernel_rfl
theorem gD:zeros? Tryz.prog 67=some [.int .i64 0,.int .i64 0,.string ⟨#[]⟩,.string ⟨#[]⟩,.int .i64 0,.int .i64 0]:=by kernel_rfl
theorem mY:cells? Tryz.prog 71=some 1:=by kernel_rfl
theorem oL:cells? Tryz.prog 81=some 2:=by kernel_rfl
theorem aLq:eqT? Tryz.prog 81=some (.agg [.str,.str]):=by kernel_rfl
theorem aLv:field? Tryz.prog 81 1=some (1,9):=by kernel_rfl
theorem mE:places? Tryz.prog 81=some [(0,1),(1,1)]:=by kernel_rfl
theorem gX:zeros? Tryz.prog 81=some [.string ⟨#[]⟩,.string ⟨#[]⟩]:=by kernel_rfl
theorem oK:cells? Tryz.prog 93=some 4:=by kernel_rfl
theorem aBg:field? Tryz.prog 93 0=some (0,3):=by kernel_rfl
theorem aBf:field? Tryz.prog 93 2=some (2,3):=by kernel_rfl
theorem aBe:field? Tryz.prog 93 3=some (3,3):=by kernel_rfl
theorem aLp:zeros? Tryz.prog 93=some [.int .i64 0,.string ⟨#[]⟩,.int .i64 0,.int .i64 0]:=by kernel_rfl
theorem sL:cells? Tryz.prog 95=some 2:=by kernel_rfl
theorem aLo:zeros? Tryz.prog 95=some [.string ⟨#[]⟩,.slice none 0 0]:=by kernel_rfl
theorem lF:cells? Tryz.prog 99=some 4:=by kernel_rfl
theorem aLu:field? Tryz.prog 99 0=some (0,9):=by kernel_rfl
theorem aLt:field? Tryz.prog 99 1=some (1,9):=by kernel_rfl
theorem aLs:field? Tryz.prog 99 2=some (2,3):=by kernel_rfl
theorem aBd:field? Tryz.prog 99 3=some (3,3):=by kernel_rfl
theorem aE6:zeros? Tryz.prog 99=some [.string ⟨#[]⟩,.string ⟨#[]⟩,.int .i64 0,.int .i64 0]:=by kernel_rfl
theorem sM:cells? Tryz.prog 101=some 2:=by kernel_rfl
theorem aHe:zeros? Tryz.prog 101=some [.string ⟨#[]⟩,.int .i64 0]:=by kernel_rfl
theorem cV:cells? Tryz.prog 106=some 2:=by kernel_rfl
theorem aHf:agg? Tryz.prog 106=some true:=by kernel_rfl
theorem tL:field? Tryz.prog 106 1=some (1,63):=by kernel_rfl
theorem xQ:places? Tryz.prog 106=some [(0,1),(1,1)]:=by kernel_rfl
theorem jM:zeros? Tryz.prog 106=some [.string ⟨#[]⟩,.slice none 0 0]:=by kernel_rfl
theorem eR:cells? Tryz.prog 107=some 2:=by kernel_rfl
theorem aSi:agg? Tryz.prog 107=some true:=by kernel_rfl
theorem aSe:eqT? Tryz.prog 107=some (.agg [.str,.int .i64]):=by kernel_rfl
theorem aOz:places? Tryz.prog 107=some [(0,1),(1,1)]:=by kernel_rfl
theorem wC:zeros? Tryz.prog 107=some [.string ⟨#[]⟩,.int .i64 0]:=by kernel_rfl
theorem mJ:cells? Tryz.prog 122=some 4:=by kernel_rfl
theorem aI3:field? Tryz.prog 122 1=some (1,3):=by kernel_rfl
theorem zI:field? Tryz.prog 122 2=some (2,3):=by kernel_rfl
theorem zH:field? Tryz.prog 122 3=some (3,3):=by kernel_rfl
theorem aHd:zeros? Tryz.prog 122=some [.int .i64 0,.int .i64 0,.int .i64 0,.int .i64 0]:=by kernel_rfl
theorem mI:cells? Tryz.prog 124=some 2:=by kernel_rfl
theorem aSh:agg? Tryz.prog 124=some true:=by kernel_rfl
theorem tJ:places? Tryz.prog 124=some [(0,1),(1,1)]:=by kernel_rfl
theorem wB:zeros? Tryz.prog 124=some [.int .i64 0,.int .i64 0]:=by kernel_rfl
theorem bB:cells? Tryz.prog 126=some 4:=by kernel_rfl
theorem dO:agg? Tryz.prog 126=some true:=by kernel_rfl
theorem aSd:eqT? Tryz.prog 126=some (.agg [.agg [.int .i64,.int .i64],.int .i64,.int .i64]):=by kernel_rfl
theorem oY:field? Tryz.prog 126 0=some (0,124):=by kernel_rfl
theorem aI2:field? Tryz.prog 126 1=some (2,3):=by kernel_rfl
theorem aI1:field? Tryz.prog 126 2=some (3,3):=by kernel_rfl
theorem tI:places? Tryz.prog 126=some [(0,2),(2,1),(3,1)]:=by kernel_rfl
theorem dX:zeros? Tryz.prog 126=some [.int .i64 0,.int .i64 0,.int .i64 0,.int .i64 0]:=by kernel_rfl
theorem aSc:eqT? Tryz.prog 141=some (.agg [.int .i64,.int .i64]):=by kernel_rfl
theorem aFj:arr? Tryz.prog 141=some (2,3):=by kernel_rfl
theorem aHc:zeros? Tryz.prog 141=some [.int .i64 0,.int .i64 0]:=by kernel_rfl
theorem dP:cells? Tryz.prog 147=some 4:=by kernel_rfl
theorem aSg:agg? Tryz.prog 147=some true:=by kernel_rfl
theorem aSb:eqT? Tryz.prog 147=some (.agg [.agg [.str,.str],.agg [.int .i64,.int .i64]]):=by kernel_rfl
theorem aI0:field? Tryz.prog 147 0=some (0,81):=by kernel_rfl
theorem tK:field? Tryz.prog 147 1=some (2,124):=by kernel_rfl
theorem aE7:places? Tryz.prog 147=some [(0,2),(2,2)]:=by kernel_rfl
theorem mD:zeros? Tryz.prog 147=some [.string ⟨#[]⟩,.string ⟨#[]⟩,.int .i64 0,.int .i64 0]:=by kernel_rfl
theorem cX:cells? Tryz.prog 152=some 4:=by kernel_rfl
theorem aSf:agg? Tryz.prog 152=some true:=by kernel_rfl
theorem aSa:eqT? Tryz.prog 152=some (.agg [.int .i64,.str,.int .i64,.int .i64]):=by kernel_rfl
theorem aIz:field? Tryz.prog 152 0=some (0,3):=by kernel_rfl
theorem aIy:field? Tryz.prog 152 2=some (2,3):=by kernel_rfl
theorem aIx:field? Tryz.prog 152 3=some (3,3):=by kernel_rfl
theorem aOy:places? Tryz.prog 152=some [(0,1),(1,1),(2,1),(3,1)]:=by kernel_rfl
theorem nK:zeros? Tryz.prog 152=some [.int .i64 0,.string ⟨#[]⟩,.int .i64 0,.int .i64 0]:=by kernel_rfl
theorem aSk:elem? Tryz.prog 189=some 3:=by kernel_rfl
theorem xX:appT? Tryz.prog 189=some (3,1,8):=by kernel_rfl
theorem aSl:cells? Tryz.prog 200=some 1:=by kernel_rfl
theorem aR9:zeros? Tryz.prog 200=some [.nilFunc]:=by kernel_rfl
theorem aHj:elem? Tryz.prog 237=some 63:=by kernel_rfl
theorem aFl:appT? Tryz.prog 237=some (63,1,24):=by kernel_rfl
theorem aSj:elem? Tryz.prog 252=some 9:=by kernel_rfl
theorem jF:appT? Tryz.prog 252=some (9,1,16):=by kernel_rfl
theorem aHi:elem? Tryz.prog 261=some 34:=by kernel_rfl
theorem xW:appT? Tryz.prog 261=some (34,1,24):=by kernel_rfl
theorem aHh:elem? Tryz.prog 263=some 35:=by kernel_rfl
theorem aPp:appT? Tryz.prog 263=some (35,1,24):=by kernel_rfl
theorem aHg:elem? Tryz.prog 284=some 36:=by kernel_rfl
theorem aFk:appT? Tryz.prog 284=some (36,1,24):=by kernel_rfl
theorem aFh:∀ args w,(callFunc 11 args).run Tryz.prog w=.ok (.enter 11 args) w:=enters_of Tryz.func11 (by kernel_rfl) rfl
theorem aFg:∀ args w,(callFunc 12 args).run Tryz.prog w=.ok (.enter 12 args) w:=enters_of Tryz.func12 (by kernel_rfl) rfl
theorem iJ:∀ args w,(callFunc 13 args).run Tryz.prog w=.ok (.enter 13 args) w:=enters_of Tryz.func13 (by kernel_rfl) rfl
theorem cO:∀ args w,(callFunc 14 args).run Tryz.prog w=.ok (.enter 14 args) w:=enters_of Tryz.func14 (by kernel_rfl) rfl
theorem fC:∀ args w,(callFunc 15 args).run Tryz.prog w=.ok (.enter 15 args) w:=enters_of Tryz.func15 (by kernel_rfl) rfl
theorem xV:∀ args w,(callFunc 16 args).run Tryz.prog w=.ok (.enter 16 args) w:=enters_of Tryz.func16 (by kernel_rfl) rfl
theorem aFf:∀ args w,(callFunc 18 args).run Tryz.prog w=.ok (.enter 18 args) w:=enters_of Tryz.func18 (by kernel_rfl) rfl
theorem aFe:∀ args w,(callFunc 21 args).run Tryz.prog w=.ok (.enter 21 args) w:=enters_of Tryz.func21 (by kernel_rfl) rfl
theorem nP:∀ args w,(callFunc 24 args).run Tryz.prog w=.ok (.enter 24 args) w:=enters_of Tryz.func24 (by kernel_rfl) rfl
theorem qM:∀ args w,(callFunc 26 args).run Tryz.prog w=.ok (.enter 26 args) w:=enters_of Tryz.func26 (by kernel_rfl) rfl
theorem aFd:∀ args w,(callFunc 30 args).run Tryz.prog w=.ok (.enter 30 args) w:=enters_of Tryz.func30 (by kernel_rfl) rfl
theorem nO:∀ args w,(callFunc 32 args).run Tryz.prog w=.ok (.enter 32 args) w:=enters_of Tryz.func32 (by kernel_rfl) rfl
theorem qL:∀ args w,(callFunc 34 args).run Tryz.prog w=.ok (.enter 34 args) w:=enters_of Tryz.func34 (by kernel_rfl) rfl
theorem xU:∀ args w,(callFunc 40 args).run Tryz.prog w=.ok (.enter 40 args) w:=enters_of Tryz.func40 (by kernel_rfl) rfl
theorem lO:∀ args w,(callFunc 41 args).run Tryz.prog w=.ok (.enter 41 args) w:=enters_of Tryz.func41 (by kernel_rfl) rfl
theorem lN:∀ args w,(callFunc 42 args).run Tryz.prog w=.ok (.enter 42 args) w:=enters_of Tryz.func42 (by kernel_rfl) rfl
theorem tP:∀ args w,(callFunc 43 args).run Tryz.prog w=.ok (.enter 43 args) w:=enters_of Tryz.func43 (by kernel_rfl) rfl
theorem xT:∀ args w,(callFunc 44 args).run Tryz.prog w=.ok (.enter 44 args) w:=enters_of Tryz.func44 (by kernel_rfl) rfl
theorem aPo:∀ args w,(callFunc 45 args).run Tryz.prog w=.ok (.enter 45 args) w:=enters_of Tryz.func45 (by kernel_rfl) rfl
theorem aPn:∀ args w,(callFunc 46 args).run Tryz.prog w=.ok (.enter 46 args) w:=enters_of Tryz.func46 (by kernel_rfl) rfl
theorem aPm:∀ args w,(callFunc 47 args).run Tryz.prog w=.ok (.enter 47 args) w:=enters_of Tryz.func47 (by kernel_rfl) rfl
theorem aPl:∀ args w,(callFunc 48 args).run Tryz.prog w=.ok (.enter 48 args) w:=enters_of Tryz.func48 (by kernel_rfl) rfl
theorem tO:∀ args w,(callFunc 49 args).run Tryz.prog w=.ok (.enter 49 args) w:=enters_of Tryz.func49 (by kernel_rfl) rfl
theorem lM:∀ args w,(callFunc 50 args).run Tryz.prog w=.ok (.enter 50 args) w:=enters_of Tryz.func50 (by kernel_rfl) rfl
theorem fB:∀ args w,(callFunc 51 args).run Tryz.prog w=.ok (.enter 51 args) w:=enters_of Tryz.func51 (by kernel_rfl) rfl
theorem kK:∀ args w,(callFunc 52 args).run Tryz.prog w=.ok (.enter 52 args) w:=enters_of Tryz.func52 (by kernel_rfl) rfl
theorem aPk:∀ args w,(callFunc 53 args).run Tryz.prog w=.ok (.enter 53 args) w:=enters_of Tryz.func53 (by kernel_rfl) rfl
theorem aPj:∀ args w,(callFunc 55 args).run Tryz.prog w=.ok (.enter 55 args) w:=enters_of Tryz.func55 (by kernel_rfl) rfl
theorem aPi:∀ args w,(callFunc 56 args).run Tryz.prog w=.ok (.enter 56 args) w:=enters_of Tryz.func56 (by kernel_rfl) rfl
theorem nN:∀ args w,(callFunc 57 args).run Tryz.prog w=.ok (.enter 57 args) w:=enters_of Tryz.func57 (by kernel_rfl) rfl
theorem aPh:∀ args w,(callFunc 62 args).run Tryz.prog w=.ok (.enter 62 args) w:=enters_of Tryz.func62 (by kernel_rfl) rfl
theorem aPg:∀ args w,(callFunc 63 args).run Tryz.prog w=.ok (.enter 63 args) w:=enters_of Tryz.func63 (by kernel_rfl) rfl
theorem aPf:∀ args w,(callFunc 64 args).run Tryz.prog w=.ok (.enter 64 args) w:=enters_of Tryz.func64 (by kernel_rfl) rfl
theorem aPe:∀ args w,(callFunc 65 args).run Tryz.prog w=.ok (.enter 65 args) w:=enters_of Tryz.func65 (by kernel_rfl) rfl
theorem xS:∀ args w,(callFunc 67 args).run Tryz.prog w=.ok (.enter 67 args) w:=enters_of Tryz.func67 (by kernel_rfl) rfl
theorem tN:∀ args w,(callFunc 68 args).run Tryz.prog w=.ok (.enter 68 args) w:=enters_of Tryz.func68 (by kernel_rfl) rfl
theorem tM:∀ args w,(callFunc 69 args).run Tryz.prog w=.ok (.enter 69 args) w:=enters_of Tryz.func69 (by kernel_rfl) rfl
theorem aFc:∀ args w,(callFunc 70 args).run Tryz.prog w=.ok (.enter 70 args) w:=enters_of Tryz.func70 (by kernel_rfl) rfl
theorem xR:∀ args w,(callFunc 71 args).run Tryz.prog w=.ok (.enter 71 args) w:=enters_of Tryz.func71 (by kernel_rfl) rfl
theorem aPd:∀ args w,(callFunc 77 args).run Tryz.prog w=.ok (.enter 77 args) w:=enters_of Tryz.func77 (by kernel_rfl) rfl
theorem aPc:∀ args w,(callFunc 78 args).run Tryz.prog w=.ok (.enter 78 args) w:=enters_of Tryz.func78 (by kernel_rfl) rfl
theorem aPb:∀ args w,(callFunc 79 args).run Tryz.prog w=.ok (.enter 79 args) w:=enters_of Tryz.func79 (by kernel_rfl) rfl
theorem aPa:∀ args w,(callFunc 80 args).run Tryz.prog w=.ok (.enter 80 args) w:=enters_of Tryz.func80 (by kernel_rfl) rfl
theorem aO9:∀ args w,(callFunc 81 args).run Tryz.prog w=.ok (.enter 81 args) w:=enters_of Tryz.func81 (by kernel_rfl) rfl
theorem aO8:∀ args w,(callFunc 82 args).run Tryz.prog w=.ok (.enter 82 args) w:=enters_of Tryz.func82 (by kernel_rfl) rfl
theorem aO7:∀ args w,(callFunc 85 args).run Tryz.prog w=.ok (.enter 85 args) w:=enters_of Tryz.func85 (by kernel_rfl) rfl
theorem aO6:∀ args w,(callFunc 86 args).run Tryz.prog w=.ok (.enter 86 args) w:=enters_of Tryz.func86 (by kernel_rfl) rfl
theorem aO5:∀ args w,(callFunc 87 args).run Tryz.prog w=.ok (.enter 87 args) w:=enters_of Tryz.func87 (by kernel_rfl) rfl
theorem aFb:∀ args w,(callFunc 88 args).run Tryz.prog w=.ok (.enter 88 args) w:=enters_of Tryz.func88 (by kernel_rfl) rfl
theorem aFa:∀ args w,(callFunc 89 args).run Tryz.prog w=.ok (.enter 89 args) w:=enters_of Tryz.func89 (by kernel_rfl) rfl
theorem kJ:∀ args w,(callFunc 90 args).run Tryz.prog w=.ok (.enter 90 args) w:=enters_of Tryz.func90 (by kernel_rfl) rfl
theorem aO4:∀ args w,(callFunc 91 args).run Tryz.prog w=.ok (.enter 91 args) w:=enters_of Tryz.func91 (by kernel_rfl) rfl
theorem aO3:∀ args w,(callFunc 92 args).run Tryz.prog w=.ok (.enter 92 args) w:=enters_of Tryz.func92 (by kernel_rfl) rfl
theorem aO2:∀ args w,(callFunc 93 args).run Tryz.prog w=.ok (.enter 93 args) w:=enters_of Tryz.func93 (by kernel_rfl) rfl
theorem aO1:∀ args w,(callFunc 94 args).run Tryz.prog w=.ok (.enter 94 args) w:=enters_of Tryz.func94 (by kernel_rfl) rfl
theorem iI:∀ args w,(callFunc 95 args).run Tryz.prog w=.ok (.enter 95 args) w:=enters_of Tryz.func95 (by kernel_rfl) rfl
theorem qK:∀ args w,(callFunc 96 args).run Tryz.prog w=.ok (.enter 96 args) w:=enters_of Tryz.func96 (by kernel_rfl) rfl
theorem nM:∀ args w,(callFunc 97 args).run Tryz.prog w=.ok (.enter 97 args) w:=enters_of Tryz.func97 (by kernel_rfl) rfl
theorem aE9:∀ args w,(callFunc 98 args).run Tryz.prog w=.ok (.enter 98 args) w:=enters_of Tryz.func98 (by kernel_rfl) rfl
theorem aO0:∀ args w,(callFunc 99 args).run Tryz.prog w=.ok (.enter 99 args) w:=enters_of Tryz.func99 (by kernel_rfl) rfl
theorem aNn:∀ args w,(callFunc 100 args).run Tryz.prog w=.ok (.enter 100 args) w:=enters_of Tryz.func100 (by kernel_rfl) rfl
theorem aB0:∀ args w,(callFunc 109 args).run Tryz.prog w=.ok (.enter 109 args) w:=enters_of Tryz.func109 (by kernel_rfl) rfl
theorem aNm:∀ args w,(callFunc 110 args).run Tryz.prog w=.ok (.enter 110 args) w:=enters_of Tryz.func110 (by kernel_rfl) rfl
theorem aNl:∀ args w,(callFunc 111 args).run Tryz.prog w=.ok (.enter 111 args) w:=enters_of Tryz.func111 (by kernel_rfl) rfl
theorem aNk:∀ args w,(callFunc 112 args).run Tryz.prog w=.ok (.enter 112 args) w:=enters_of Tryz.func112 (by kernel_rfl) rfl
theorem mH:∀ args w,(callFunc 113 args).run Tryz.prog w=.ok (.enter 113 args) w:=enters_of Tryz.func113 (by kernel_rfl) rfl
theorem vM:∀ args w,(callFunc 114 args).run Tryz.prog w=.ok (.enter 114 args) w:=enters_of Tryz.func114 (by kernel_rfl) rfl
theorem mG:∀ args w,(callFunc 115 args).run Tryz.prog w=.ok (.enter 115 args) w:=enters_of Tryz.func115 (by kernel_rfl) rfl
theorem aNj:∀ args w,(callFunc 116 args).run Tryz.prog w=.ok (.enter 116 args) w:=enters_of Tryz.func116 (by kernel_rfl) rfl
theorem vL:∀ args w,(callFunc 117 args).run Tryz.prog w=.ok (.enter 117 args) w:=enters_of Tryz.func117 (by kernel_rfl) rfl
theorem aBz:∀ args w,(callFunc 118 args).run Tryz.prog w=.ok (.enter 118 args) w:=enters_of Tryz.func118 (by kernel_rfl) rfl
theorem aNi:∀ args w,(callFunc 119 args).run Tryz.prog w=.ok (.enter 119 args) w:=enters_of Tryz.func119 (by kernel_rfl) rfl
theorem aNh:∀ args w,(callFunc 121 args).run Tryz.prog w=.ok (.enter 121 args) w:=enters_of Tryz.func121 (by kernel_rfl) rfl
theorem aNg:∀ args w,(callFunc 122 args).run Tryz.prog w=.ok (.enter 122 args) w:=enters_of Tryz.func122 (by kernel_rfl) rfl
theorem aNf:∀ args w,(callFunc 123 args).run Tryz.prog w=.ok (.enter 123 args) w:=enters_of Tryz.func123 (by kernel_rfl) rfl
theorem aBy:∀ args w,(callFunc 131 args).run Tryz.prog w=.ok (.enter 131 args) w:=enters_of Tryz.func131 (by kernel_rfl) rfl
theorem rN:∀ args w,(callFunc 132 args).run Tryz.prog w=.ok (.enter 132 args) w:=enters_of Tryz.func132 (by kernel_rfl) rfl
theorem aBx:∀ args w,(callFunc 133 args).run Tryz.prog w=.ok (.enter 133 args) w:=enters_of Tryz.func133 (by kernel_rfl) rfl
theorem aBw:∀ args w,(callFunc 134 args).run Tryz.prog w=.ok (.enter 134 args) w:=enters_of Tryz.func134 (by kernel_rfl) rfl
theorem aNe:∀ args w,(callFunc 135 args).run Tryz.prog w=.ok (.enter 135 args) w:=enters_of Tryz.func135 (by kernel_rfl) rfl
theorem aNd:∀ args w,(callFunc 136 args).run Tryz.prog w=.ok (.enter 136 args) w:=enters_of Tryz.func136 (by kernel_rfl) rfl
theorem aNc:∀ args w,(callFunc 137 args).run Tryz.prog w=.ok (.enter 137 args) w:=enters_of Tryz.func137 (by kernel_rfl) rfl
theorem aBv:∀ args w,(callFunc 138 args).run Tryz.prog w=.ok (.enter 138 args) w:=enters_of Tryz.func138 (by kernel_rfl) rfl
theorem mF:∀ args w,(callFunc 139 args).run Tryz.prog w=.ok (.enter 139 args) w:=enters_of Tryz.func139 (by kernel_rfl) rfl
theorem aNb:∀ args w,(callFunc 140 args).run Tryz.prog w=.ok (.enter 140 args) w:=enters_of Tryz.func140 (by kernel_rfl) rfl
theorem aNa:∀ args w,(callFunc 141 args).run Tryz.prog w=.ok (.enter 141 args) w:=enters_of Tryz.func141 (by kernel_rfl) rfl
theorem aM9:∀ args w,(callFunc 142 args).run Tryz.prog w=.ok (.enter 142 args) w:=enters_of Tryz.func142 (by kernel_rfl) rfl
theorem aM8:∀ args w,(callFunc 143 args).run Tryz.prog w=.ok (.enter 143 args) w:=enters_of Tryz.func143 (by kernel_rfl) rfl
theorem aM7:∀ args w,(callFunc 144 args).run Tryz.prog w=.ok (.enter 144 args) w:=enters_of Tryz.func144 (by kernel_rfl) rfl
theorem aM6:∀ args w,(callFunc 145 args).run Tryz.prog w=.ok (.enter 145 args) w:=enters_of Tryz.func145 (by kernel_rfl) rfl
theorem aM5:∀ args w,(callFunc 146 args).run Tryz.prog w=.ok (.enter 146 args) w:=enters_of Tryz.func146 (by kernel_rfl) rfl
theorem aM4:∀ args w,(callFunc 147 args).run Tryz.prog w=.ok (.enter 147 args) w:=enters_of Tryz.func147 (by kernel_rfl) rfl
theorem aM3:∀ args w,(callFunc 148 args).run Tryz.prog w=.ok (.enter 148 args) w:=enters_of Tryz.func148 (by kernel_rfl) rfl
theorem aM2:∀ args w,(callFunc 149 args).run Tryz.prog w=.ok (.enter 149 args) w:=enters_of Tryz.func149 (by kernel_rfl) rfl
theorem aM1:∀ args w,(callFunc 150 args).run Tryz.prog w=.ok (.enter 150 args) w:=enters_of Tryz.func150 (by kernel_rfl) rfl
theorem aM0:∀ args w,(callFunc 151 args).run Tryz.prog w=.ok (.enter 151 args) w:=enters_of Tryz.func151 (by kernel_rfl) rfl
theorem kL:∀ args w,(callFunc 152 args).run Tryz.prog w=.ok (.enter 152 args) w:=enters_of Tryz.func152 (by kernel_rfl) rfl
theorem iX:∀ args w,(callFunc 153 args).run Tryz.prog w=.ok (.enter 153 args) w:=enters_of Tryz.func153 (by kernel_rfl) rfl
theorem iE:∀ args w,(callFunc 154 args).run Tryz.prog w=.ok (.enter 154 args) w:=enters_of Tryz.func154 (by kernel_rfl) rfl
theorem aMz:∀ args w,(callFunc 155 args).run Tryz.prog w=.ok (.enter 155 args) w:=enters_of Tryz.func155 (by kernel_rfl) rfl
theorem aMy:∀ args w,(callFunc 156 args).run Tryz.prog w=.ok (.enter 156 args) w:=enters_of Tryz.func156 (by kernel_rfl) rfl
theorem aMx:∀ args w,(callFunc 157 args).run Tryz.prog w=.ok (.enter 157 args) w:=enters_of Tryz.func157 (by kernel_rfl) rfl
theorem aMw:∀ args w,(callFunc 158 args).run Tryz.prog w=.ok (.enter 158 args) w:=enters_of Tryz.func158 (by kernel_rfl) rfl
theorem aMv:∀ args w,(callFunc 159 args).run Tryz.prog w=.ok (.enter 159 args) w:=enters_of Tryz.func159 (by kernel_rfl) rfl
theorem vK:∀ args w,(callFunc 160 args).run Tryz.prog w=.ok (.enter 160 args) w:=enters_of Tryz.func160 (by kernel_rfl) rfl
theorem vJ:∀ args w,(callFunc 161 args).run Tryz.prog w=.ok (.enter 161 args) w:=enters_of Tryz.func161 (by kernel_rfl) rfl
theorem aMu:∀ args w,(callFunc 162 args).run Tryz.prog w=.ok (.enter 162 args) w:=enters_of Tryz.func162 (by kernel_rfl) rfl
theorem aMt:∀ args w,(callFunc 163 args).run Tryz.prog w=.ok (.enter 163 args) w:=enters_of Tryz.func163 (by kernel_rfl) rfl
theorem aMs:∀ args w,(callFunc 164 args).run Tryz.prog w=.ok (.enter 164 args) w:=enters_of Tryz.func164 (by kernel_rfl) rfl
theorem aBu:∀ args w,(callFunc 165 args).run Tryz.prog w=.ok (.enter 165 args) w:=enters_of Tryz.func165 (by kernel_rfl) rfl
theorem aMr:∀ args w,(callFunc 166 args).run Tryz.prog w=.ok (.enter 166 args) w:=enters_of Tryz.func166 (by kernel_rfl) rfl
theorem aMq:∀ args w,(callFunc 167 args).run Tryz.prog w=.ok (.enter 167 args) w:=enters_of Tryz.func167 (by kernel_rfl) rfl
theorem aMp:∀ args w,(callFunc 174 args).run Tryz.prog w=.ok (.enter 174 args) w:=enters_of Tryz.func174 (by kernel_rfl) rfl
theorem aMo:∀ args w,(callFunc 175 args).run Tryz.prog w=.ok (.enter 175 args) w:=enters_of Tryz.func175 (by kernel_rfl) rfl
theorem vI:∀ args w,(callFunc 176 args).run Tryz.prog w=.ok (.enter 176 args) w:=enters_of Tryz.func176 (by kernel_rfl) rfl
theorem aMn:∀ args w,(callFunc 177 args).run Tryz.prog w=.ok (.enter 177 args) w:=enters_of Tryz.func177 (by kernel_rfl) rfl
theorem aMm:∀ args w,(callFunc 182 args).run Tryz.prog w=.ok (.enter 182 args) w:=enters_of Tryz.func182 (by kernel_rfl) rfl
theorem aMl:∀ args w,(callFunc 183 args).run Tryz.prog w=.ok (.enter 183 args) w:=enters_of Tryz.func183 (by kernel_rfl) rfl
theorem aMk:∀ args w,(callFunc 184 args).run Tryz.prog w=.ok (.enter 184 args) w:=enters_of Tryz.func184 (by kernel_rfl) rfl
theorem aMj:∀ args w,(callFunc 185 args).run Tryz.prog w=.ok (.enter 185 args) w:=enters_of Tryz.func185 (by kernel_rfl) rfl
theorem aMi:∀ args w,(callFunc 186 args).run Tryz.prog w=.ok (.enter 186 args) w:=enters_of Tryz.func186 (by kernel_rfl) rfl
theorem aMh:∀ args w,(callFunc 187 args).run Tryz.prog w=.ok (.enter 187 args) w:=enters_of Tryz.func187 (by kernel_rfl) rfl
theorem vH:∀ args w,(callFunc 188 args).run Tryz.prog w=.ok (.enter 188 args) w:=enters_of Tryz.func188 (by kernel_rfl) rfl
theorem aBt:∀ args w,(callFunc 189 args).run Tryz.prog w=.ok (.enter 189 args) w:=enters_of Tryz.func189 (by kernel_rfl) rfl
theorem vG:∀ args w,(callFunc 190 args).run Tryz.prog w=.ok (.enter 190 args) w:=enters_of Tryz.func190 (by kernel_rfl) rfl
theorem aBs:∀ args w,(callFunc 191 args).run Tryz.prog w=.ok (.enter 191 args) w:=enters_of Tryz.func191 (by kernel_rfl) rfl
theorem aMg:∀ args w,(callFunc 192 args).run Tryz.prog w=.ok (.enter 192 args) w:=enters_of Tryz.func192 (by kernel_rfl) rfl
theorem aBr:∀ args w,(callFunc 193 args).run Tryz.prog w=.ok (.enter 193 args) w:=enters_of Tryz.func193 (by kernel_rfl) rfl
theorem rM:∀ args w,(callFunc 194 args).run Tryz.prog w=.ok (.enter 194 args) w:=enters_of Tryz.func194 (by kernel_rfl) rfl
theorem aBq:∀ args w,(callFunc 195 args).run Tryz.prog w=.ok (.enter 195 args) w:=enters_of Tryz.func195 (by kernel_rfl) rfl
theorem aMf:∀ args w,(callFunc 196 args).run Tryz.prog w=.ok (.enter 196 args) w:=enters_of Tryz.func196 (by kernel_rfl) rfl
theorem aMe:∀ args w,(callFunc 197 args).run Tryz.prog w=.ok (.enter 197 args) w:=enters_of Tryz.func197 (by kernel_rfl) rfl
theorem aMd:∀ args w,(callFunc 198 args).run Tryz.prog w=.ok (.enter 198 args) w:=enters_of Tryz.func198 (by kernel_rfl) rfl
theorem aMc:∀ args w,(callFunc 199 args).run Tryz.prog w=.ok (.enter 199 args) w:=enters_of Tryz.func199 (by kernel_rfl) rfl
theorem aMb:∀ args w,(callFunc 200 args).run Tryz.prog w=.ok (.enter 200 args) w:=enters_of Tryz.func200 (by kernel_rfl) rfl
theorem aMa:∀ args w,(callFunc 201 args).run Tryz.prog w=.ok (.enter 201 args) w:=enters_of Tryz.func201 (by kernel_rfl) rfl
theorem aBp:∀ args w,(callFunc 202 args).run Tryz.prog w=.ok (.enter 202 args) w:=enters_of Tryz.func202 (by kernel_rfl) rfl
theorem aBo:∀ args w,(callFunc 203 args).run Tryz.prog w=.ok (.enter 203 args) w:=enters_of Tryz.func203 (by kernel_rfl) rfl
theorem aL9:∀ args w,(callFunc 204 args).run Tryz.prog w=.ok (.enter 204 args) w:=enters_of Tryz.func204 (by kernel_rfl) rfl
theorem aL8:∀ args w,(callFunc 205 args).run Tryz.prog w=.ok (.enter 205 args) w:=enters_of Tryz.func205 (by kernel_rfl) rfl
theorem aL7:∀ args w,(callFunc 206 args).run Tryz.prog w=.ok (.enter 206 args) w:=enters_of Tryz.func206 (by kernel_rfl) rfl
theorem aL6:∀ args w,(callFunc 207 args).run Tryz.prog w=.ok (.enter 207 args) w:=enters_of Tryz.func207 (by kernel_rfl) rfl
theorem aL5:∀ args w,(callFunc 208 args).run Tryz.prog w=.ok (.enter 208 args) w:=enters_of Tryz.func208 (by kernel_rfl) rfl
theorem aL4:∀ args w,(callFunc 209 args).run Tryz.prog w=.ok (.enter 209 args) w:=enters_of Tryz.func209 (by kernel_rfl) rfl
theorem aL3:∀ args w,(callFunc 210 args).run Tryz.prog w=.ok (.enter 210 args) w:=enters_of Tryz.func210 (by kernel_rfl) rfl
theorem aL2:∀ args w,(callFunc 211 args).run Tryz.prog w=.ok (.enter 211 args) w:=enters_of Tryz.func211 (by kernel_rfl) rfl
theorem aBn:∀ args w,(callFunc 215 args).run Tryz.prog w=.ok (.enter 215 args) w:=enters_of Tryz.func215 (by kernel_rfl) rfl
theorem aBm:∀ args w,(callFunc 216 args).run Tryz.prog w=.ok (.enter 216 args) w:=enters_of Tryz.func216 (by kernel_rfl) rfl
theorem rL:∀ args w,(callFunc 217 args).run Tryz.prog w=.ok (.enter 217 args) w:=enters_of Tryz.func217 (by kernel_rfl) rfl
theorem aL1:∀ args w,(callFunc 228 args).run Tryz.prog w=.ok (.enter 228 args) w:=enters_of Tryz.func228 (by kernel_rfl) rfl
theorem aL0:∀ args w,(callFunc 229 args).run Tryz.prog w=.ok (.enter 229 args) w:=enters_of Tryz.func229 (by kernel_rfl) rfl
theorem aLz:∀ args w,(callFunc 230 args).run Tryz.prog w=.ok (.enter 230 args) w:=enters_of Tryz.func230 (by kernel_rfl) rfl
theorem aLy:∀ args w,(callFunc 231 args).run Tryz.prog w=.ok (.enter 231 args) w:=enters_of Tryz.func231 (by kernel_rfl) rfl
theorem aLx:∀ args w,(callFunc 234 args).run Tryz.prog w=.ok (.enter 234 args) w:=enters_of Tryz.func234 (by kernel_rfl) rfl
theorem vF:∀ args w,(callFunc 241 args).run Tryz.prog w=.ok (.enter 241 args) w:=enters_of Tryz.func241 (by kernel_rfl) rfl
end Go.Proofs.YtijnkglkchhomaaGreat
set_option linter.unusedVariables false
namespace Go.Proofs.YtijnkglkchhomaaGreat
open Go Go.Abs
end Go.Proofs.YtijnkglkchhomaaGreat
set_option linter.unusedVariables false
set_option linter.unusedSimpArgs false
namespace Go.Proofs.YtijnkglkchhomaaGreat
open Go Go.Abs Go.RowKit Go.Lib
theorem aI6 {P:Program} (w:World) {o:Oper} {a:Act} {K:Act→World→Prop} {Q:Exit→Act→World→Prop} (d s:Operand) (t t':TypeId)
    (ho:o.op=.call { callee:=.builtin .copy,args:=#[d,s],argTypes:=#[t,t'] }) (v u:Value) (hd:a.eval d=v) (hs:a.eval s=u) {v':Value} {w':World}
    (hr:(Builtin.copy_ #[t,t'] o.type #[v,u]).run P w=.ok v' w') (h:K (a.put o.dst v') w'):o.wp P a w K Q:=by
  unfold Oper.wp execOp
  simp only[ho,resolve,invoke,builtin,Sem.run_bind,Sem.run_pure,Result.andThen_ok,List.map_toArray,List.map_cons,List.map_nil,hd,hs,hr]
  exact h
theorem xY {P:Program} (w:World) {ops:Array Oper} {rest:List Oper} {o:Oper} {a:Act} {Q:Exit→Act→World→Prop} (hgd:o.guard=none) (d s:Operand) (t t':TypeId)
    (ho:o.op=.call { callee:=.builtin .copy,args:=#[d,s],argTypes:=#[t,t'] }) (v u:Value) (hd:a.eval d=v) (hs:a.eval s=u) {v':Value} {w':World}
    (hr:(Builtin.copy_ #[t,t'] o.type #[v,u]).run P w=.ok v' w') (h:wpList P ops Q rest (a.put o.dst v') w'):wpList P ops Q (o::rest) a w :=
  wpList_plain hgd fun _ hK=>aI6 w d s t t' ho v u hd hs hr (hK _ _ h)
theorem aC5 {P:Program} {ops:Array Oper} {o:Oper} {a:Act} {w:World} {K:Act→World→Prop} {Q:Exit→Act→World→Prop} {E:Prop}
    (hg:o.guard=none) (d x:Operand) (dT sT:TypeId) (hop:o.op=Op.call { callee:=Callee.builtin Builtin.copy,args:=#[d,x],argTypes:=#[dT,sT] })
    (v u:Value) (hd:a.eval d=v) (hx:a.eval x=u) {v':Value} {w':World} (hr:(Builtin.copy_ #[dT,sT] o.type #[v,u]).run P w=.ok v' w') (hK:K (a.put o.dst v') w') :
    if Region.wanted o (yielded ops a.tmps)=true then Oper.wp P o a w K Q else E:=by
  have hw:Region.wanted o (yielded ops a.tmps)=true:=by simp [Region.wanted,hg]
  rw[if_pos hw]
  exact aI6 w d x dT sT hop v u hd hx hr hK
theorem vX {P:Program} (w:World) (dT sT ty elem:TypeId) (g o dLen dCap k m:Nat) (a:Addr) (sLen sCap:Nat) (cur:Array Value) (t:TypeId) (cs:List Value)
    (hu:P.underlying dT=some (.slice elem)) (hs:cells? P elem=some k) (hg:w.heap[g]?=some (.cells cur t (0,0))) (hm:Nat.min sLen dLen=m) (hn:cs.length=m*k)
    (hsrc:∀ j v,cs[j]?=some v→w.cell? (a.add j)=some v) (hfit:o+cs.length≤cur.size) (h1:∀ v∈cs,v.oneCell'=true) :
    (Builtin.copy_ #[dT,sT] ty #[.slice (some ⟨g,o,none⟩) dLen dCap,.slice (some a) sLen sCap]).run P w =
      .ok (goInt m) (w.setRow g (cur.toList.take o++cs++cur.toList.drop (o+cs.length)).toArray):=by
  have hf:=run_firstCells_some (P:=P) w k m a sLen sCap cs hn hsrc
  have hst:=run_storeCells_at P g o t cs 0 cur w hg (by simpa using hfit) h1
  simp only[Nat.add_zero] at hst
  simp [Builtin.copy_,run_underlying hu,Builtin.lenOf,dR hs,hm,hf,hst]
theorem aDf {l:List Value} {o:Nat} {cs:List Value} (h:o+cs.length≤l.length) (q:Nat):(l.take o++cs++l.drop (o+cs.length))[q]?=if q<o then l[q]? else if q<o+cs.length then cs[q - o]? else l[q]?:=by
  have ht:(l.take o).length=o:=by rw[List.length_take]; omega
  rw[List.append_assoc]
  by_cases h1:q<o
  · rw[if_pos h1,List.getElem?_append_left (by omega),List.getElem?_take,if_pos h1]
  · rw[if_neg h1,List.getElem?_append_right (by omega),ht]
    by_cases h2:q<o+cs.length
    · rw[if_pos h2,List.getElem?_append_left (by omega)]
    · rw[if_neg h2,List.getElem?_append_right (by omega),List.getElem?_drop]
      congr 1; omega
theorem aD4 (w:World) (vb b o m vc lb cb:Nat) (vcur cur:Array Value) (T1 T2:TypeId) (hv:w.heap[vb]?=some (.cells vcur T1 (0,0))) (hb:w.heap[b]?=some (.cells cur T2 (0,0))) (hne:vb≠b) (h0:cur.size≠0) :
    (callFunc 232 #[.slice (some ⟨vb,0,none⟩) m vc,.slice (some ⟨b,o,none⟩) lb cb]).run Tryz.prog w=.ok (.value (.bool false)) w:=by
  rw[run_callFunc_extern Tryz.func232 (by kernel_rfl) (by kernel_rfl) (by kernel_rfl) (e:=Extern.SlicesOverlaps.overlaps #[37,37] #[4]) (by kernel_rfl),
    Lib.run_overlaps_apart w 37 4 107 (elem?_inv gN) 2 (dR eR) ⟨vb,0,none⟩ ⟨b,o,none⟩ m vc lb cb hne T1 T2 vcur.size cur.size (by simp [World.shape?,hv]) (by simp [World.shape?,hb]) h0 (by simp [World.frozen?,hv]) (by simp [World.frozen?,hv])]
  rfl
set_option maxRecDepth 100000 in
theorem aH5 (b n c i vb vc:Nat) (cur vcur:Array Value) (T T2:TypeId) (w:World) (hb:w.heap[b]?=some (.cells cur T (0,0))) (hv:w.heap[vb]?=some (.cells vcur T2 (0,0))) (hne:vb≠b)
    (hi:i<n) (hroom:n+1≤c) (hc63:c≤9223372036854775807) (hsz:c*2≤cur.size) (hvs:2≤vcur.size) (hone:∀ (j:Nat) (v:Value),j<n*2→cur[j]?=some v→v.oneCell'=true) (honv:∀ (j:Nat) (v:Value),j<2→vcur[j]?=some v→v.oneCell'=true) :
    Calls Tryz.prog 209 #[.slice (some ⟨b,0,none⟩) n c,.int .i64 i,.slice (some ⟨vb,0,none⟩) 1 vc] w fun e w'=>e=.returned (.slice (some ⟨b,0,none⟩) (n+1) c) ∧
      ∃ cs,w'=w.drew.setRow b cs∧cs.size=cur.size∧∀ q,q<(n+1)*2→cs[q]?=if q<i*2 then cur[q]? else if q<i*2+2 then vcur[q - i*2]? else cur[q - 2]?:=by
  have hb':w.drew.heap[b]?=some (.cells cur T (0,0)):=hb
  have hcell:∀ j,j<cur.size→w.drew.cell? ⟨b,j,none⟩=cur[j]?:=fun j hj=>by simp [World.cell?,hb']
  obtain ⟨mid,hmid⟩:∃ mid,mid=(cur.toList.drop (i*2)).take ((n - i)*2):=⟨_,rfl⟩
  have hml:mid.length=(n - i)*2:=by rw[hmid]; simp only[List.length_take,List.length_drop,Array.length_toList]; omega
  have hmg:∀ t,t<(n - i)*2→mid[t]?=cur[i*2+t]?:=fun t ht=>by rw[hmid,List.getElem?_take,if_pos ht,List.getElem?_drop,Array.getElem?_toList]
  have hm1:∀ v∈mid,v.oneCell'=true:=fun v hv=>by
    obtain ⟨t,ht⟩:=List.getElem?_of_mem hv
    have ht2:=(List.getElem?_eq_some_iff.1 ht).1
    rw[hml] at ht2
    rw[hmg t ht2] at ht
    exact hone _ _ (by omega) ht
  obtain ⟨cs1,hcs1⟩:∃ cs1,cs1=(cur.toList.take ((i+1)*2)++mid++cur.toList.drop ((i+1)*2+mid.length)).toArray:=⟨_,rfl⟩
  have hc1s:cs1.size=cur.size:=by rw[hcs1]; simp only[List.size_toArray,List.length_append,List.length_take,List.length_drop,Array.length_toList,hml]; omega
  have hcp1:∀ ty dc sc,(Builtin.copy_ #[37,37] ty #[.slice (some ⟨b,(i+1)*2,none⟩) (n - i) dc,.slice (some ⟨b,i*2,none⟩) (n+1 - i) sc]).run Tryz.prog w.drew=.ok (goInt ((n - i:Nat):Int)) (w.drew.setRow b cs1):=fun ty dc sc=>by
    rw[hcs1]
    exact vX w.drew 37 37 ty 107 b ((i+1)*2) (n - i) dc 2 (n - i) ⟨b,i*2,none⟩ (n+1 - i) sc cur T mid (elem?_inv gN) eR hb' (by simp only[Nat.min_def]; split <;> omega) hml
      (fun j v hj=>by
        have hj2:=(List.getElem?_eq_some_iff.1 hj).1
        rw[hml] at hj2
        rw[hmg j hj2] at hj
        rw[Addr.add_lit]
        exact(hcell _ (by omega)).trans hj) (by rw[hml]; omega) hm1
  obtain ⟨W1,hW1⟩:∃ W1,W1=w.drew.setRow b cs1:=⟨_,rfl⟩
  have hb1:W1.heap[b]?=some (.cells cs1 T (0,0)):=by rw[hW1]; exact setRow_heap _ b cur cs1 T _ hb'
  have hv1:W1.heap[vb]?=some (.cells vcur T2 (0,0)):=by rw[hW1]; exact(setRow_other w.drew b vb cs1 hne).trans hv
  obtain ⟨vs,hvl⟩:∃ vs,vs=vcur.toList.take 2:=⟨_,rfl⟩
  have hvsl:vs.length=1*2:=by rw[hvl]; simp only[List.length_take,Array.length_toList]; omega
  have hvg:∀ t,t<2→vs[t]?=vcur[t]?:=fun t ht=>by rw[hvl,List.getElem?_take,if_pos ht,Array.getElem?_toList]
  obtain ⟨cs2,hcs2⟩:∃ cs2,cs2=(cs1.toList.take (i*2)++vs++cs1.toList.drop (i*2+vs.length)).toArray:=⟨_,rfl⟩
  have hcp2:∀ (W:World),W.heap=W1.heap→∀ ty dc,(Builtin.copy_ #[37,37] ty #[.slice (some ⟨b,i*2,none⟩) (n+1 - i) dc,.slice (some ⟨vb,0,none⟩) 1 vc]).run Tryz.prog W=.ok (goInt 1) (W.setRow b cs2):=fun W hW ty dc=>by
    rw[hcs2]
    exact vX W 37 37 ty 107 b (i*2) (n+1 - i) dc 2 1 ⟨vb,0,none⟩ 1 vc cs1 T vs (elem?_inv gN) eR (by rw[hW]; exact hb1) (by simp only[Nat.min_def]; split <;> omega) hvsl
      (fun j v hj=>by
        have hj2:=(List.getElem?_eq_some_iff.1 hj).1
        rw[hvg j (by omega)] at hj
        rw[Addr.add_lit,Nat.zero_add]
        simp only[World.cell?,hW,hv1]
        exact hj) (by rw[hvsl,hc1s]; omega) (fun v hv=>by
        obtain ⟨t,ht⟩:=List.getElem?_of_mem hv
        have ht2:=(List.getElem?_eq_some_iff.1 ht).1
        rw[hvg t (by omega)] at ht
        exact honv t v (by omega) ht)
  have hov:∀ o lb cb,(callFunc 232 #[.slice (some ⟨vb,0,none⟩) 1 vc,.slice (some ⟨b,o,none⟩) lb cb]).run Tryz.prog w=.ok (.value (.bool false)) w:=fun o lb cb=>aD4 w vb b o 1 vc lb cb vcur cur T2 T hv hb hne (by omega)
  have hfin:∀ q,q<(n+1)*2→cs2[q]?=if q<i*2 then cur[q]? else if q<i*2+2 then vcur[q - i*2]? else cur[q - 2]?:=fun q hq=>by
    rw[hcs2,List.getElem?_toArray,aDf (by rw[hvsl,Array.length_toList,hc1s]; omega),hvsl]
    have e1:cs1.toList[q]?=if q<(i+1)*2 then cur[q]? else if q<(i+1)*2+(n - i)*2 then mid[q - (i+1)*2]? else cur[q]?:=by
      rw[hcs1,aDf (by rw[hml,Array.length_toList]; omega),hml,Array.getElem?_toList]
    by_cases h1:q<i*2
    · rw[if_pos h1,if_pos h1,e1,if_pos (by omega)]
    · rw[if_neg h1,if_neg h1]
      by_cases h2:q<i*2+2
      · rw[if_pos h2,if_pos h2,hvg _ (by omega)]
      · rw[if_neg h2,if_neg h2,e1,if_neg (by omega),if_pos (by omega),hmg _ (by omega)]
        congr 1; omega
  have hc2s:cs2.size=cur.size:=by rw[hcs2]; simp only[List.size_toArray,List.length_append,List.length_take,List.length_drop,Array.length_toList,hvsl,hc1s]; omega
  rw[← hW1] at hcp1
  have mixed:=bK
  have hz1:¬ (((1:Nat):Int)=0):=by decide
  have hz2:¬ ((i:Int)=(n:Int)):=by omega
  have hin:i≤n:=by omega
  have htn:((i:Int)+1).toNat=i+1:=by omega
  have hw1:IntKind.i64.wrap ((i:Int)+1)=(i:Int)+1:=by rw[IntKind.wrap_i64]; omega
  have hw2:IntKind.i64.wrap ((n:Int)+1)=(n:Int)+1:=by rw[IntKind.wrap_i64]; omega
  have hb1':(0:Int)≤(i:Int)+1:=by omega
  have hb2:¬ (c=i+1):=by omega
  have hb3:(i:Int)≤(n:Int)+1:=by omega
  have hb4:¬ (c=i):=by omega
  have hic:i≤c:=by omega
  have hgt:¬ ((c:Int)<(n:Int)+1):=by omega
  have hn0:(0:Int)≤(n:Int)+1:=by omega
  have htn2:((n:Int)+1).toNat=n+1:=by omega
  have hfin2:Hid (cs2.size=cur.size∧∀ q,q<(n+1)*2→cs2[q]?=if q<i*2 then cur[q]? else if q<i*2+2 then vcur[q - i*2]? else cur[q - 2]?):=⟨hc2s,hfin⟩
  clear hfin hc2s hcs2 hvg hvsl hvl hm1 hmg hml hmid hcs1 hc1s hcell hone honv hb1 hv1
  go_enter Tryz.func209,Tryz.ntmps209
  go_wp2_with (simp only[hov])
  go_region_law_o (refine aC5 rfl _ _ 37 37 rfl _ _ (by simp [Act.eval,Act.put]) (by simp [Act.eval,Act.put]) (hcp1 _ _ _) ?_)
  go_wp2_with (at_builtin; refine xY _ rfl _ _ 37 37 rfl _ _ rfl rfl (hcp2 _ rfl _ _) ?_)
  go_ret
  refine⟨rfl,cs2,?_,hfin2.out⟩
  exact setRow_setRow _ _ _ _
def aNs (w:World) (x:Option Nat) (n i:Nat) (old:Nat→Option Value) (vcur:Array Value) (e:Ending) (w':World):Prop :=
  ∃ b' cap' cs T,e=.returned (.slice (some ⟨b',0,none⟩) (n+1) cap')∧n+1≤cap'∧cap'≤9223372036854775807∧w'.heap[b']?=some (.cells cs T (0,0))∧cap'*2≤cs.size∧(x=some b'∨w.heap.size≤b')∧w.heap.size≤w'.heap.size∧(∀ b,b<w.heap.size→x≠some b→w'.heap[b]?=w.heap[b]?)∧w'.os=w.os∧(w'.tape=w.tape∧w.drawn≤w'.drawn)∧w'.output=w.output ∧
    ∀ q,q<(n+1)*2→cs[q]?=if q<i*2 then old q else if q<i*2+2 then vcur[q - i*2]? else old (q - 2)
theorem uF (w:World) (b:Nat) (cs:Array Value):(w.setRow b cs).heap.size=w.heap.size:=by simp [World.setRow]
theorem aKq {w w1:World} {b n c i:Nat} {cur vcur cs:Array Value} {T:TypeId} (h1:w1.heap=w.heap) (h2:w1.os=w.os) (h3:w1.tape=w.tape∧w.drawn≤w1.drawn) (h4:w1.output=w.output) (hb:w.heap[b]?=some (.cells cur T (0,0))) (hroom:n+1≤c) (hc63:c≤9223372036854775807) (hsz:c*2≤cur.size) (hcs:cs.size=cur.size)
    (hq:∀ q,q<(n+1)*2→cs[q]?=if q<i*2 then cur[q]? else if q<i*2+2 then vcur[q - i*2]? else cur[q - 2]?):aNs w (some b) n i (fun q=>cur[q]?) vcur (.returned (.slice (some ⟨b,0,none⟩) (n+1) c)) (w1.setRow b cs):=by
  refine⟨b,c,cs,T,rfl,hroom,hc63,setRow_heap _ b cur cs T _ (by rw[h1]; exact hb),by omega,.inl rfl,by rw[uF,h1]; exact Nat.le_refl _,fun b' hb' hne=>?_,h2,h3,h4,hq⟩
  rw[setRow_other w1 b b' cs (fun e=>hne (by rw[e])),h1]
set_option maxRecDepth 100000 in
theorem aB9 (b n c vb vc:Nat) (cur vcur:Array Value) (T T2:TypeId) (w:World) (hb:w.heap[b]?=some (.cells cur T (0,0))) (hv:w.heap[vb]?=some (.cells vcur T2 (0,0)))
    (hroom:n+1≤c) (hc63:c≤9223372036854775807) (hsz:c*2≤cur.size) (hvs:2≤vcur.size) (honv:∀ (j:Nat) (v:Value),j<2→vcur[j]?=some v→v.oneCell'=true) :
    Calls Tryz.prog 209 #[.slice (some ⟨b,0,none⟩) n c,.int .i64 n,.slice (some ⟨vb,0,none⟩) 1 vc] w (aNs w (some b) n n (fun q=>cur[q]?) vcur):=by
  obtain ⟨he,hck,hk0,i0,z,hi0,hzz,hik,hby,hzc⟩:=appT?_inv kX
  obtain ⟨vs,hvl⟩:∃ vs,vs=vcur.toList.take 2:=⟨_,rfl⟩
  have hvsl:vs.length=1*2:=by rw[hvl]; simp only[List.length_take,Array.length_toList]; omega
  have hvg:∀ t,t<2→vs[t]?=vcur[t]?:=fun t ht=>by rw[hvl,List.getElem?_take,if_pos ht,Array.getElem?_toList]
  obtain ⟨cs,hcs⟩:∃ cs,cs=(cur.toList.take (n*2)++vs++cur.toList.drop (n*2+vs.length)).toArray:=⟨_,rfl⟩
  have hrun:∀ ty,(Builtin.append_ #[37,37] ty #[.slice (some ⟨b,0,none⟩) n c,.slice (some ⟨vb,0,none⟩) 1 vc]).run Tryz.prog w=.ok (.slice (some ⟨b,0,none⟩) (n+1) c) (w.setRow b cs):=fun ty=>by
    rw[hcs]
    exact nF he hck b n c cur hb ⟨vb,0,none⟩ 1 vc vs hvsl
      (fun j v hj=>by
        have hj2:=(List.getElem?_eq_some_iff.1 hj).1
        rw[hvg j (by omega)] at hj
        rw[Addr.add_lit,Nat.zero_add]
        simp only[World.cell?,hv]
        exact hj) (fun v hv=>by
        obtain ⟨t,ht⟩:=List.getElem?_of_mem hv
        have ht2:=(List.getElem?_eq_some_iff.1 ht).1
        rw[hvg t (by omega)] at ht
        exact honv t v (by omega) ht) hroom (by rw[hvsl]; omega)
  have hsz2:cs.size=cur.size:=by rw[hcs]; simp only[List.size_toArray,List.length_append,List.length_take,List.length_drop,Array.length_toList,hvsl]; omega
  have hq:Hid (aNs w (some b) n n (fun q=>cur[q]?) vcur (.returned (.slice (some ⟨b,0,none⟩) (n+1) c)) (w.setRow b cs)):=aKq rfl rfl ⟨rfl,Nat.le_refl _⟩ rfl hb hroom hc63 hsz hsz2 (fun q hq=>by
    rw[hcs,List.getElem?_toArray,aDf (by rw[hvsl,Array.length_toList]; omega),hvsl,Array.getElem?_toList]
    by_cases h1:q<n*2
    · rw[if_pos h1,if_pos h1]
    · rw[if_neg h1,if_neg h1,if_pos (by omega),if_pos (by omega),hvg _ (by omega)])
  have mixed:=bK
  have hz1:¬ (((1:Nat):Int)=0):=by decide
  have hnc:n≤c:=by omega
  clear hcs hvg hvsl hvl honv hsz2 hv hb
  go_enter Tryz.func209,Tryz.ntmps209
  go_wp2_with (at_builtin; refine Lib.wpList_append_run _ rfl _ _ _ _ rfl _ _ rfl rfl _ _ (hrun _) ?_)
  go_ret
  exact hq.out
set_option maxRecDepth 100000 in
theorem oN (base:Option Addr) (n c vb vc:Nat) (old:Nat→Option Value) (x:Option Nat) (vcur:Array Value) (T2:TypeId) (w:World) (hv:w.heap[vb]?=some (.cells vcur T2 (0,0)))
    (hnc:n≤c) (hroom:c<n+1) (hbig:(n+1)*24≤140737488355328) (hnil:base=none→n=0) (olds:List Value) (hol:olds.length=n*2) (hog:∀ q,q<n*2→olds[q]?=old q)
    (hcs:∀ a,base=some a→∀ j v,olds[j]?=some v→w.cell? (a.add j)=some v) (hvs:2≤vcur.size) (honv:∀ (j:Nat) (v:Value),j<2→vcur[j]?=some v→v.oneCell'=true) :
    Calls Tryz.prog 209 #[.slice base n c,.int .i64 n,.slice (some ⟨vb,0,none⟩) 1 vc] w (aNs w x n n old vcur):=by
  obtain ⟨he,hck,hk0,i0,z,hi0,hzz,hik,hby,hzc⟩:=appT?_inv kX
  obtain ⟨vs,hvl⟩:∃ vs,vs=vcur.toList.take 2:=⟨_,rfl⟩
  have hvsl:vs.length=1*2:=by rw[hvl]; simp only[List.length_take,Array.length_toList]; omega
  have hvg:∀ t,t<2→vs[t]?=vcur[t]?:=fun t ht=>by rw[hvl,List.getElem?_take,if_pos ht,Array.getElem?_toList]
  have hsrc:Src Tryz.prog i0.size 37 (.slice (some ⟨vb,0,none⟩) 1 vc) 1 vs w:=by
    rw[hik]
    exact Src.ofSlice w (elem?_inv he) ⟨vb,0,none⟩ 1 vc vs hvsl (fun j v hj=>by
        have hj2:=(List.getElem?_eq_some_iff.1 hj).1
        rw[hvg j (by omega)] at hj
        rw[Addr.add_lit,Nat.zero_add]
        simp only[World.cell?,hv]
        exact hj) (fun v hv=>by
        obtain ⟨t,ht⟩:=List.getElem?_of_mem hv
        have ht2:=(List.getElem?_eq_some_iff.1 ht).1
        rw[hvg t (by omega)] at ht
        exact honv t v (by omega) ht)
  have hold:(Builtin.firstCells i0.size n (.slice base n c)).run Tryz.prog w.drew=.ok olds.toArray w.drew:=by
    rw[hik]
    cases base with
    | none =>
      have h0:=hnil rfl
      subst h0
      obtain rfl:olds=[]:=List.length_eq_zero_iff.1 (by omega)
      exact run_firstCells_none w.drew 2 0 0 c
    | some a =>
      exact run_firstCells_some w.drew 2 n a n c olds hol (fun j v hj=>hcs a rfl j v hj)
  have hrun:∀ ty,(Builtin.append_ #[37,37] ty #[.slice base n c,.slice (some ⟨vb,0,none⟩) 1 vc]).run Tryz.prog w=_:=fun ty =>
    run_append_grow_src w 37 37 ty 107 i0 z (elem?_inv he) hi0 hzz base n c olds hold _ 1 vs hsrc hroom (by omega) (by rw[hby]; exact growslice_fits hroom hbig)
  obtain ⟨G,hG⟩:∃ G,G=grownCap w (n+1) c 107:=⟨_,rfl⟩
  have hGn:n+1≤G:=by rw[hG]; exact grownCap_ge w _ _ _
  have hG63:G≤9223372036854775807:=by
    have:=grownCap_le_maxLen w (n+1) c 107 (by unfold maxLen; omega)
    rw[← hG] at this
    unfold maxLen at this
    omega
  rw[← hG] at hrun
  obtain ⟨row,hrow⟩:∃ row:Array Value,row=(olds++vs).toArray++Builtin.zeroCells z.cells (G - (n+1)):=⟨_,rfl⟩
  rw[← hrow] at hrun
  have hrs:row.size=G*2:=by rw[hrow,Array.size_append,size_zeroCells,hzc,List.size_toArray,List.length_append,hol,hvsl]; omega
  have hq:Hid (aNs w x n n old vcur (.returned (.slice (some ⟨w.heap.size,0,none⟩) (n+1) G)) (w.drew.alloc (.cells row 107 (0,0)))):=by
    refine⟨w.heap.size,G,row,107,rfl,hGn,hG63,heap_alloc_new w.drew _,by omega,.inr (Nat.le_refl _),by simp,fun b' hb' _=>Below.heap_alloc w.drew _ _ hb',rfl,⟨rfl,Nat.le_succ _⟩,rfl,fun q hq=>?_⟩
    rw[hrow,Array.getElem?_append_left (by rw[List.size_toArray,List.length_append,hol,hvsl]; omega),List.getElem?_toArray]
    by_cases h1:q<n*2
    · rw[if_pos h1,List.getElem?_append_left (by omega),hog q h1]
    · rw[if_neg h1,if_pos (by omega),List.getElem?_append_right (by omega),hol,hvg _ (by omega)]
  have mixed:=bK
  have hz1:¬ (((1:Nat):Int)=0):=by decide
  clear hrow hrs hvg hvsl hvl honv hv hsrc hold hG hGn hG63 hog hol
  go_enter Tryz.func209,Tryz.ntmps209
  cases base with
  | none =>
    have h0:=hnil rfl
    subst h0
    go_wp2_with (at_builtin; refine Lib.wpList_append_run _ rfl _ _ _ _ rfl _ _ rfl rfl _ _ (hrun _) ?_)
    go_ret
    exact hq.out
  | some a =>
    obtain ⟨ab,ao,asp⟩:=a
    go_wp2_with (at_builtin; refine Lib.wpList_append_run _ rfl _ _ _ _ rfl _ _ rfl rfl _ _ (hrun _) ?_)
    all_goals (go_ret; exact hq.out)
set_option maxRecDepth 100000 in
theorem aKm (b n c i vb vc:Nat) (cur vcur:Array Value) (T T2:TypeId) (w:World) (hb:w.heap[b]?=some (.cells cur T (0,0))) (hv:w.heap[vb]?=some (.cells vcur T2 (0,0)))
    (hi:i<n) (hnc:n≤c) (hroom:c<n+1) (hbig:(n+1)*24≤140737488355328) (hsz:c*2≤cur.size) (hvs:2≤vcur.size) (hone:∀ (j:Nat) (v:Value),j<n*2→cur[j]?=some v→v.oneCell'=true) (honv:∀ (j:Nat) (v:Value),j<2→vcur[j]?=some v→v.oneCell'=true) :
    Calls Tryz.prog 209 #[.slice (some ⟨b,0,none⟩) n c,.int .i64 i,.slice (some ⟨vb,0,none⟩) 1 vc] w (aNs w (some b) n i (fun q=>cur[q]?) vcur):=by
  obtain ⟨he,hck,hk0,i0,z,hi0,hzz,hik,hby,hzc⟩:=appT?_inv kX
  have hbw:b<w.heap.size:=(Array.getElem?_eq_some_iff.1 hb).1
  have hvw:vb<w.heap.size:=(Array.getElem?_eq_some_iff.1 hv).1
  have hcell:∀ j,j<cur.size→w.drew.cell? ⟨b,j,none⟩=cur[j]?:=fun j hj=>by
    have hb':w.drew.heap[b]?=some (.cells cur T (0,0)):=hb
    simp [World.cell?,hb']
  obtain ⟨vs,hvl⟩:∃ vs,vs=vcur.toList.take 2:=⟨_,rfl⟩
  have hvsl:vs.length=1*2:=by rw[hvl]; simp only[List.length_take,Array.length_toList]; omega
  have hvg:∀ t,t<2→vs[t]?=vcur[t]?:=fun t ht=>by rw[hvl,List.getElem?_take,if_pos ht,Array.getElem?_toList]
  have hv1:∀ v∈vs,v.oneCell'=true:=fun v hv=>by
    obtain ⟨t,ht⟩:=List.getElem?_of_mem hv
    have ht2:=(List.getElem?_eq_some_iff.1 ht).1
    rw[hvg t (by omega)] at ht
    exact honv t v (by omega) ht
  obtain ⟨pre,hpl⟩:∃ pre,pre=cur.toList.take (i*2):=⟨_,rfl⟩
  have hpll:pre.length=i*2:=by rw[hpl]; simp only[List.length_take,Array.length_toList]; omega
  have hpg:∀ t,t<i*2→pre[t]?=cur[t]?:=fun t ht=>by rw[hpl,List.getElem?_take,if_pos ht,Array.getElem?_toList]
  obtain ⟨mid,hmid⟩:∃ mid,mid=(cur.toList.drop (i*2)).take ((n - i)*2):=⟨_,rfl⟩
  have hml:mid.length=(n - i)*2:=by rw[hmid]; simp only[List.length_take,List.length_drop,Array.length_toList]; omega
  have hmg:∀ t,t<(n - i)*2→mid[t]?=cur[i*2+t]?:=fun t ht=>by rw[hmid,List.getElem?_take,if_pos ht,List.getElem?_drop,Array.getElem?_toList]
  have hm1:∀ v∈mid,v.oneCell'=true:=fun v hv=>by
    obtain ⟨t,ht⟩:=List.getElem?_of_mem hv
    have ht2:=(List.getElem?_eq_some_iff.1 ht).1
    rw[hml] at ht2
    rw[hmg t ht2] at ht
    exact hone _ _ (by omega) ht
  have hold:(Builtin.firstCells i0.size i (.slice (some ⟨b,0,none⟩) i c)).run Tryz.prog w.drew=.ok pre.toArray w.drew:=by
    rw[hik]
    exact run_firstCells_some w.drew 2 i ⟨b,0,none⟩ i c pre hpll (fun j v hj=>by
      have hj2:=(List.getElem?_eq_some_iff.1 hj).1
      rw[hpll] at hj2
      rw[hpg j hj2] at hj
      rw[Addr.add_lit,Nat.zero_add]
      exact(hcell _ (by omega)).trans hj)
  have hik2:i+(n+1 - i)=n+1:=by omega
  have hkk:(n:Int)+1 - (i:Int)=((n+1 - i:Nat):Int):=by omega
  have hrun:∀ ty,(Builtin.append_ #[37,3] ty #[.slice (some ⟨b,0,none⟩) i c,.int .i64 ((n:Int)+1 - (i:Int))]).run Tryz.prog w =
      .ok (.slice (some ⟨w.heap.size,0,none⟩) (n+1) (grownCap w (n+1) c 107)) (w.drew.alloc (.cells (pre.toArray++Builtin.zeroCells z.cells (n+1 - i)++Builtin.zeroCells z.cells (grownCap w (n+1) c 107 - (n+1))) 107)):=fun ty=>by
    have h:=Lib.run_append_grow_zeros w 37 3 ty 107 i0 z .i64 .i64 (elem?_inv he) Tryz.underlying3 hi0 hzz (some ⟨b,0,none⟩) i c pre hold (n+1 - i) (by omega) (by omega) (by omega) (by omega) (by rw[hby]; omega) (by rw[hby,hik2]; exact growslice_fits hroom hbig)
    rw[hik2] at h
    rw[hkk]
    exact h
  obtain ⟨G,hG⟩:∃ G,G=grownCap w (n+1) c 107:=⟨_,rfl⟩
  have hGn:n+1≤G:=by rw[hG]; exact grownCap_ge w _ _ _
  have hG63:G≤9223372036854775807:=by
    have:=grownCap_le_maxLen w (n+1) c 107 (by unfold maxLen; omega)
    rw[← hG] at this
    unfold maxLen at this
    omega
  rw[← hG] at hrun
  obtain ⟨row,hrow⟩:∃ row:Array Value,row=pre.toArray++Builtin.zeroCells z.cells (n+1 - i)++Builtin.zeroCells z.cells (G - (n+1)):=⟨_,rfl⟩
  rw[← hrow] at hrun
  have hrs:row.size=G*2:=by rw[hrow,Array.size_append,Array.size_append,size_zeroCells,size_zeroCells,hzc,List.size_toArray,hpll]; omega
  have hrg:∀ q,q<i*2→row[q]?=cur[q]?:=fun q hq=>by
    rw[hrow,Array.append_assoc,Array.getElem?_append_left (by rw[List.size_toArray]; omega),List.getElem?_toArray,hpg q hq]
  obtain ⟨W1,hW1⟩:∃ W1,W1=w.drew.alloc (.cells row 107):=⟨_,rfl⟩
  rw[← hW1] at hrun
  have hN:W1.heap[w.heap.size]?=some (.cells row 107 (0,0)):=by rw[hW1]; exact heap_alloc_new w.drew _
  have hO:∀ b',b'<w.heap.size→W1.heap[b']?=w.heap[b']?:=fun b' h=>by rw[hW1]; exact Below.heap_alloc w.drew _ _ h
  obtain ⟨cs1,hcs1⟩:∃ cs1,cs1=(row.toList.take (i*2)++vs++row.toList.drop (i*2+vs.length)).toArray:=⟨_,rfl⟩
  have hc1s:cs1.size=G*2:=by rw[hcs1]; simp only[List.size_toArray,List.length_append,List.length_take,List.length_drop,Array.length_toList,hvsl,hrs]; omega
  have hcpA:∀ (W:World),W.heap=W1.heap→∀ ty dc,(Builtin.copy_ #[37,37] ty #[.slice (some ⟨w.heap.size,i*2,none⟩) (n+1 - i) dc,.slice (some ⟨vb,0,none⟩) 1 vc]).run Tryz.prog W=.ok (goInt 1) (W.setRow w.heap.size cs1):=fun W hW ty dc=>by
    rw[hcs1]
    exact vX W 37 37 ty 107 w.heap.size (i*2) (n+1 - i) dc 2 1 ⟨vb,0,none⟩ 1 vc row 107 vs (elem?_inv he) hck (by rw[hW]; exact hN) (by simp only[Nat.min_def]; split <;> omega) hvsl
      (fun j v hj=>by
        have hj2:=(List.getElem?_eq_some_iff.1 hj).1
        rw[hvg j (by omega)] at hj
        rw[Addr.add_lit,Nat.zero_add]
        simp only[World.cell?,hW,hO vb hvw,hv]
        exact hj) (by rw[hvsl,hrs]; omega) hv1
  obtain ⟨cs2,hcs2⟩:∃ cs2,cs2=(cs1.toList.take ((i+1)*2)++mid++cs1.toList.drop ((i+1)*2+mid.length)).toArray:=⟨_,rfl⟩
  have hc2s:cs2.size=G*2:=by rw[hcs2]; simp only[List.size_toArray,List.length_append,List.length_take,List.length_drop,Array.length_toList,hml,hc1s]; omega
  have hcpB:∀ (W:World),W.heap=(W1.setRow w.heap.size cs1).heap→∀ ty dc sc,(Builtin.copy_ #[37,37] ty #[.slice (some ⟨w.heap.size,(i+1)*2,none⟩) (n - i) dc,.slice (some ⟨b,i*2,none⟩) (n - i) sc]).run Tryz.prog W=.ok (goInt ((n - i:Nat):Int)) (W.setRow w.heap.size cs2):=fun W hW ty dc sc=>by
    rw[hcs2]
    exact vX W 37 37 ty 107 w.heap.size ((i+1)*2) (n - i) dc 2 (n - i) ⟨b,i*2,none⟩ (n - i) sc cs1 107 mid (elem?_inv he) hck (by rw[hW]; exact setRow_heap _ _ row cs1 _ _ hN) (by simp only[Nat.min_def]; split <;> omega) hml
      (fun j v hj=>by
        have hj2:=(List.getElem?_eq_some_iff.1 hj).1
        rw[hml] at hj2
        rw[hmg j hj2] at hj
        rw[Addr.add_lit]
        simp only[World.cell?,hW,setRow_other W1 _ b cs1 (by omega:b≠w.heap.size),hO b hbw,hb]
        exact hj) (by rw[hml,hc1s]; omega) hm1
  have hq:∀ (W:World),W.heap=(W1.setRow w.heap.size cs1).heap→W.os=w.os→(W.tape=w.tape∧w.drawn≤W.drawn)→W.output=w.output→Hid (aNs w (some b) n i (fun q=>cur[q]?) vcur (.returned (.slice (some ⟨w.heap.size,0,none⟩) (n+1) G)) (W.setRow w.heap.size cs2)):=fun W hW h1 h2 h3=>by
    refine⟨w.heap.size,G,cs2,107,rfl,hGn,hG63,setRow_heap _ _ cs1 cs2 _ _ (by rw[hW]; exact setRow_heap _ _ row cs1 _ _ hN),by omega,.inr (Nat.le_refl _),?_,fun b' hb' _=>?_,h1,h2,h3,fun q hq=>?_⟩
    · rw[uF,hW,uF,hW1]; simp
    · rw[setRow_other W _ b' cs2 (by omega),hW,setRow_other W1 _ b' cs1 (by omega),hO b' hb']
    · have e1:cs1.toList[q]?=if q<i*2 then row.toList[q]? else if q<i*2+1*2 then vs[q - i*2]? else row.toList[q]?:=by
        rw[hcs1,aDf (by rw[hvsl,Array.length_toList,hrs]; omega),hvsl]
      rw[hcs2,List.getElem?_toArray,aDf (by rw[hml,Array.length_toList,hc1s]; omega),hml]
      by_cases h1:q<i*2
      · rw[if_pos (by omega),if_pos h1,e1,if_pos h1,Array.getElem?_toList,hrg q h1]
      · rw[if_neg h1]
        by_cases h2:q<i*2+2
        · rw[if_pos (by omega),if_pos h2,e1,if_neg h1,if_pos (by omega),hvg _ (by omega)]
        · rw[if_neg (by omega),if_neg h2,if_pos (by omega),hmg _ (by omega)]
          congr 1; omega
  have hE:∀ x,(w.alloc (.cells row 107)).drew=x→x.heap=W1.heap:=fun x h=>by rw[← h,hW1]; rfl
  have hW1o:W1.os=w.os∧(W1.tape=w.tape∧w.drawn≤W1.drawn)∧W1.output=w.output:=by rw[hW1]; exact⟨rfl,⟨rfl,Nat.le_succ _⟩,rfl⟩
  have mixed:=bK
  have hz1:¬ (((1:Nat):Int)=0):=by decide
  have hz2:¬ ((i:Int)=(n:Int)):=by omega
  have hz3:(c:Int)<(n:Int)+1:=by omega
  have hGi:¬ (G=i):=by omega
  have hGim:¬ (G=i+1):=by omega
  have hci:¬ (c=i):=by omega
  have hw1:IntKind.i64.wrap ((i:Int)+1)=(i:Int)+1:=by rw[IntKind.wrap_i64]; omega
  have hw2:IntKind.i64.wrap ((n:Int)+1)=(n:Int)+1:=by rw[IntKind.wrap_i64]; omega
  have hw3:IntKind.i64.wrap ((n:Int)+1 - (i:Int))=(n:Int)+1 - (i:Int):=by rw[IntKind.wrap_i64]; omega
  have hb1:(0:Int)≤(i:Int)+1:=by omega
  have hin:i≤n:=by omega
  have htn:((i:Int)+1).toNat=i+1:=by omega
  have hb3:(i:Int)≤(n:Int):=by omega
  have hic:i≤c:=by omega
  have hi1:i≤n+1:=by omega
  clear hkk hold hrow hG hcs1 hcs2 hrg hrs hmid hml hmg hm1 hpl hpll hpg hvl hvsl hvg hv1 hcell hone honv hc1s hc2s hN hO hik2
  go_enter Tryz.func209,Tryz.ntmps209
  go_wp2_with (first
    | (at_builtin; refine Lib.wpList_append_run _ rfl _ _ _ _ rfl _ _ rfl rfl _ _ (hrun _) ?_)
    | (at_builtin; refine xY _ rfl _ _ 37 37 rfl _ _ rfl rfl (hcpA _ rfl _ _) ?_))
  go_region_law_o (refine aC5 rfl _ _ 37 37 rfl (.slice (some ⟨w.heap.size,(i+1)*2,none⟩) (n - i) (G - (i+1))) (.slice (some ⟨b,i*2,none⟩) (n - i) (c - i)) (by simp [Act.eval,Act.put]) (by simp [Act.eval,Act.put]) (hcpB _ (by rw[hW1]; rfl) 3 (G - (i+1)) (c - i)) ?_)
  go_wp2
  go_ret
  exact hq _ (by rw[hW1]; rfl) rfl ⟨rfl,Nat.le_trans (Nat.le_succ _) (Nat.le_succ _)⟩ rfl
theorem pick3 {α:Type} {l:List α} {y:α} {i j:Nat} (hi:i≤l.length) (hj:j<l.length+1):(l.take i++y::l.drop i)[j]?=if j<i then l[j]? else if j=i then some y else l[j - 1]?:=by
  have ht:(l.take i).length=i:=by rw[List.length_take]; omega
  by_cases h1:j<i
  · rw[if_pos h1,List.getElem?_append_left (by omega),List.getElem?_take,if_pos h1]
  · rw[if_neg h1,List.getElem?_append_right (by omega),ht]
    by_cases h2:j=i
    · rw[if_pos h2,h2,Nat.sub_self]; rfl
    · rw[if_neg h2,show j - i=(j - i - 1)+1 from by omega,List.getElem?_cons_succ,List.getElem?_drop]
      congr 1; omega
theorem aKn (xs:List (List AV)) (y:List AV) (n i:Nat) (hn:n=xs.length) (hi:i≤n) (hbig:(n+1)*24≤140737488355328) :
    DenX Tryz.prog 209 [.own E0 2 0 n,.s (.int .i64 (i:Nat)),.own E1 2 0 1] [(E0,.buf 2 xs),(E1,.buf 2 [y])] (fun r m=>r=.own E0 2 0 (n+1)∧m=[(E0,.buf 2 (xs.take i++y::xs.drop i))]):=by
  intro A w o vals hA hdom hm hr
  obtain ⟨v0,v1,v2,rfl⟩:∃ v0 v1 v2,vals=[v0,v1,v2]:=by
    have:=hr.1
    match vals,this with
    | [a,b,c],_=>exact⟨a,b,c,rfl⟩
  have r0:=hr.2 0 _ v0 rfl rfl
  have r1:=hr.2 1 _ v1 rfl rfl
  have r2:=hr.2 2 _ v2 rfl rfl
  cases r1
  have hl0:=hm.holds E0 (.buf 2 xs) rfl
  have hl1:=hm.holds E1 (.buf 2 [y]) rfl
  rcases hl1 with ⟨hx,_⟩ | ⟨vb,vcur,T2,hvE,hv,hvs,hvk,hvc⟩
  · cases hx
  obtain ⟨vc,rfl⟩:∃ vc,v2=.slice (some ⟨vb,0,none⟩) 1 vc:=by
    cases r2 with
    | own _ _ _ _ b' cap cur' T' hg h1 h2 h3 h4 =>
      have hg':o E1=some (some b'):=hg
      have hvE':o E1=some (some vb):=hvE
      rw[hg'] at hvE'; cases hvE'
      exact⟨cap,by simp⟩
  have hyl:y.length=2∧∀ c∈y,c.leaf=true:=hvk y (by simp)
  have hyc:∀ (q:Nat) (c:AV),y[q]?=some c→∃ v,vcur[q]?=some v∧RelV w ⟨o,A⟩ c v:=fun q c hc=>by
    obtain ⟨v,h1,h2⟩:=hvc 0 y q c rfl hc
    exact⟨v,by simpa using h1,h2⟩
  have honv:∀ (j:Nat) (v:Value),j<2→vcur[j]?=some v→v.oneCell'=true:=fun j v hj hv'=>by
    have hlt:j<y.length:=by rw[hyl.1]; exact hj
    obtain ⟨u,h1,h2⟩:=hyc j y[j] (List.getElem?_eq_getElem hlt)
    rw[hv'] at h1; cases h1
    exact h2.one (AV.one_of_leaf (hyl.2 _ (List.getElem_mem hlt)))
  have hvs2:2≤vcur.size:=by simpa using hvs
  -- what was there,cell by cell
  obtain ⟨x,old,hrun,hxo,hoc,hk⟩:∃ (x:Option Nat) (old:Nat→Option Value),Calls Tryz.prog 209 [v0,.int .i64 (i:Nat),.slice (some ⟨vb,0,none⟩) 1 vc].toArray w (aNs w x n i old vcur)∧(∀ b,x=some b→o E0=some (some b)) ∧
      (∀ (j:Nat) z (q:Nat) c,xs[j]?=some z→z[q]?=some c→∃ v,old (j*2+q)=some v∧RelV w ⟨o,A⟩ c v)∧(∀ z∈xs,z.length=2∧∀ c∈z,c.leaf=true):=by
    have hempty:n=0→xs=[]:=fun h=>List.eq_nil_of_length_eq_zero (by omega)
    cases r0 with
    | ownn _ _ hg =>
      have hx0:=hempty rfl
      have hi0:i=0:=by omega
      subst hi0; subst hx0
      exact⟨none,fun _=>none,oN none 0 0 vb vc (fun _=>none) none vcur T2 w hv (Nat.le_refl _) (by omega) hbig (fun _=>rfl) [] rfl (fun q hq=>by omega) (fun a ha=>by cases ha) hvs2 honv,(fun b hb=>by cases hb),(fun j z q c h=>by simp at h),by simp⟩
    | own0 _ _ _ b a hg =>
      have hx0:=hempty rfl
      have hi0:i=0:=by omega
      subst hi0; subst hx0
      exact⟨some b,fun _=>none,oN (some ⟨b,a,none⟩) 0 0 vb vc (fun _=>none) (some b) vcur T2 w hv (Nat.le_refl _) (by omega) hbig (fun h=>by cases h) [] rfl (fun q hq=>by omega) (fun a ha j v hj=>by simp at hj) hvs2 honv,(fun b hb=>by cases hb; exact hg),(fun j z q c h=>by simp at h),by simp⟩
    | own _ _ _ _ b cap cur' T' hg h1 h2 h3 h4 =>
      rcases hl0 with ⟨_,hb⟩ | ⟨b0,cur,T,hbE,hh,hcs,hck,hcell⟩
      · have hg':o E0=some (some b):=hg
        have hb':o E0=some none:=hb
        rw[hg'] at hb'; cases hb'
      · have hg':o E0=some (some b):=hg
        have hb':o E0=some (some b0):=hbE
        rw[hg'] at hb'; cases hb'
        obtain ⟨e1,e2⟩:cur=cur'∧T=T':=by rw[hh] at h3; cases h3; exact⟨rfl,rfl⟩
        subst e1; subst e2
        have hsz:cap*2≤cur.size:=by omega
        have hc63:cap≤9223372036854775807:=by simpa [maxLen] using h2
        have hne:vb≠b:=fun e=>by
          have:=hm.inj E0 E1 b hg' (by rw[← e]; exact hvE)
          exact absurd this (by decide)
        have hone:∀ (j:Nat) (v:Value),j<n*2→cur[j]?=some v→v.oneCell'=true:=fun j v hj hv'=>by
          have hj2:j / 2<xs.length:=by rw[← hn]; omega
          have hy':xs[j / 2]?=some xs[j / 2]:=List.getElem?_eq_getElem hj2
          have hl:=hck _ (List.mem_of_getElem? hy')
          have hq:j % 2<(xs[j / 2]).length:=by rw[hl.1]; omega
          obtain ⟨u,hu,hru⟩:=hcell (j / 2) _ (j % 2) _ hy' (List.getElem?_eq_getElem hq)
          rw[show j / 2*2+j % 2=j by omega,hv'] at hu
          cases hu
          exact hru.one (AV.one_of_leaf (hl.2 _ (List.getElem_mem hq)))
        refine⟨some b,fun q=>cur[q]?,?_,(fun b' hb'=>by cases hb'; exact hg'),hcell,hck⟩
        have hv0:(⟨b,0*2,none⟩:Addr)=⟨b,0,none⟩:=by simp
        rw[hv0]
        by_cases hin:i<n
        · by_cases hroom:n+1≤cap
          · refine(aH5 b n cap i vb vc cur vcur T T2 w hh hv hne hin hroom hc63 hsz hvs2 hone honv).mono ?_
            rintro e w' ⟨rfl,cs,rfl,hcsz,hq⟩
            exact aKq rfl rfl ⟨rfl,Nat.le_succ _⟩ rfl hh hroom hc63 hsz hcsz hq
          · exact aKm b n cap i vb vc cur vcur T T2 w hh hv hin h1 (by omega) hbig hsz hvs2 hone honv
        · have hie:i=n:=by omega
          rw[hie]
          by_cases hroom:n+1≤cap
          · exact aB9 b n cap vb vc cur vcur T T2 w hh hv hroom hc63 hsz hvs2 honv
          · have htl:(cur.toList.take (n*2)).length=n*2:=by rw[List.length_take,Array.length_toList]; omega
            exact oN (some ⟨b,0,none⟩) n cap vb vc (fun q=>cur[q]?) (some b) vcur T2 w hv h1 (by omega) hbig (fun h=>by cases h) (cur.toList.take (n*2)) htl (fun q hq=>by rw[List.getElem?_take,if_pos hq,Array.getElem?_toList]) (fun a ha j v hj=>by
              cases ha
              have hj2:=(List.getElem?_eq_some_iff.1 hj).1
              rw[htl] at hj2
              rw[List.getElem?_take,if_pos hj2,Array.getElem?_toList] at hj
              rw[Addr.add_lit,Nat.zero_add]
              simp only[World.cell?,hh]
              exact hj) hvs2 honv
  refine hrun.mono ?_
  rintro e w' ⟨b',cap',cs,T,rfl,q1,q2,q3,q4,q5,q6,q7,q8,q9,q10,q11⟩
  have hnx:∀ b,Stable w ⟨o,A⟩ b→x≠some b:=fun b hb hx=>hb.2.1 E0 (hxo b hx)
  have hst:∀ b,Stable w ⟨o,A⟩ b→Stable w' ⟨fun g=>if g=E0 then some (some b') else none,A⟩ b∧w'.heap[b]?=w.heap[b]?:=fun b hb=>by
    refine⟨⟨Nat.lt_of_lt_of_le hb.1 q6,fun g hg=>?_,hb.2.2⟩,q7 b hb.1 (hnx b hb)⟩
    simp only at hg
    split at hg
    · cases hg
      rcases q5 with h | h
      · exact hnx b' hb h
      · have:=hb.1; omega
    · cases hg
  have hmv:∀ (a:AV) (v:Value),a.leaf=true→RelV w ⟨o,A⟩ a v→RelV w' ⟨fun g=>if g=E0 then some (some b') else none,A⟩ a v:=fun a v hlf h=>h.move (ok:=fun _=>false) hst (fun _ _ h _=>by cases h) (AV.clean_of_leaf hlf)
  have hlen:(xs.take i++y::xs.drop i).length=n+1:=by simp only[List.length_append,List.length_take,List.length_cons,List.length_drop]; omega
  have hA':¬ A b':=fun h=>by
    rcases q5 with h1 | h1
    · exact hm.avoid E0 b' (hxo b' h1) h
    · have:=hA b' h; omega
  refine⟨_,.own E0 2 0 (n+1),[(E0,.buf 2 (xs.take i++y::xs.drop i))],fun g=>if g=E0 then some (some b') else none,rfl,⟨rfl,rfl⟩,⟨q8,q9,q10,q6,fun b hb hno=>q7 b hb fun hx=>hno E0 (hxo b hx)⟩,fun g b hg=>?_,⟨fun g hg=>?_,fun g m hg=>?_,fun g g' b h1 h2=>?_,fun g b hg=>?_⟩,rfl,?_⟩
  · try simp only at hg
    split at hg
    · cases hg
      rcases q5 with h | h
      · exact .inl ⟨E0,hxo b' h⟩
      · exact .inr h
    · cases hg
  · show (if g=E0 then some (some b') else none)=none
    rw[dB] at hg
    split at hg
    · cases hg
    · rename_i hne; rw[if_neg (fun e=>hne e.symm)]
  · rw[dB] at hg
    split at hg
    · rename_i e; subst e; cases hg
      refine .inr ⟨b',cs,T,by simp,q3,by rw[hlen]; omega,fun z hz=>?_,fun j z q c hz hc=>?_⟩
      · rcases List.mem_append.1 hz with hz | hz
        · exact hk z (List.mem_of_mem_take hz)
        · rcases List.mem_cons.1 hz with rfl | hz
          · exact hyl
          · exact hk z (List.mem_of_mem_drop hz)
      · have hj:j<n+1:=by rw[← hlen]; exact(List.getElem?_eq_some_iff.1 hz).1
        rw[pick3 (by omega) (by omega)] at hz
        by_cases h1:j<i
        · rw[if_pos h1] at hz
          have hzk:=hk z (List.mem_of_getElem? hz)
          have hq:q<2:=by rw[← hzk.1]; exact(List.getElem?_eq_some_iff.1 hc).1
          obtain ⟨v,hv1,hv2⟩:=hoc j z q c hz hc
          exact⟨v,by rw[q11 _ (by omega),if_pos (by omega)]; exact hv1,hmv _ _ (hzk.2 c (List.mem_of_getElem? hc)) hv2⟩
        · rw[if_neg h1] at hz
          by_cases h2:j=i
          · rw[if_pos h2] at hz
            cases hz
            have hq:q<2:=by rw[← hyl.1]; exact(List.getElem?_eq_some_iff.1 hc).1
            obtain ⟨v,hv1,hv2⟩:=hyc q c hc
            refine⟨v,?_,hmv _ _ (hyl.2 c (List.mem_of_getElem? hc)) hv2⟩
            rw[q11 _ (by omega),if_neg (by omega),if_pos (by omega),show j*2+q - i*2=q from by omega]; exact hv1
          · rw[if_neg h2] at hz
            have hzk:=hk z (List.mem_of_getElem? hz)
            have hq:q<2:=by rw[← hzk.1]; exact(List.getElem?_eq_some_iff.1 hc).1
            obtain ⟨v,hv1,hv2⟩:=hoc (j - 1) z q c hz hc
            refine⟨v,?_,hmv _ _ (hzk.2 c (List.mem_of_getElem? hc)) hv2⟩
            rw[q11 _ (by omega),if_neg (by omega),if_neg (by omega),show j*2+q - 2=(j - 1)*2+q from by omega]; exact hv1
    · cases hg
  · try simp only at h1 h2
    split at h1
    · split at h2
      · rename_i e1 e2; rw[e1,e2]
      · cases h2
    · cases h1
  · try simp only at hg
    split at hg
    · cases hg; exact hA'
    · cases hg
  · have:=RelV.own (w:=w') (p:=⟨fun g=>if g=E0 then some (some b') else none,A⟩) E0 2 0 (n+1) b' cap' cs T (by simp) q1 (by simpa [maxLen] using q2) q3 (by omega)
    simpa using this
end Go.Proofs.YtijnkglkchhomaaGreat
set_option linter.unusedVariables false
namespace Go.Abs
open Go Go.RowKit
variable {P:Program} {α:Type} {enc:α→List AV}
theorem pX {l:List α} {k:Nat} (h:k<l.length):(l.map enc)[((k:Nat):Int).toNat]?=some (enc l[k]):=by
  rw[Int.toNat_natCast,List.getElem?_map,List.getElem?_eq_getElem h]; rfl
theorem gQ {l:List α} {z:Int} {k:Nat} (hz:z=(k:Nat)) (h:k<l.length):0≤z∧(l.map enc)[z.toNat]?=some (enc l[k]):=by
  subst hz; exact⟨by omega,pX h⟩
theorem fT (ok:Nat→Bool) (c:AV) (cs:List AV):cleanL ok (c::cs)=(c.clean ok&&cleanL ok cs):=by simp only[cleanL]
theorem cL {mem:Mem} {g k n:Nat} {xs:List (List AV)} (hl:bU mem g=some (.buf k xs)) (hn:n=xs.length):(AV.own g k 0 n).conv mem=.sl k xs:=by
  subst hn
  simp [AV.conv,hl]
theorem aD3 {l:List α} {c k i:Nat} (hi:i=k) (h:k<l.length) (f:Nat):((AM.buf c (l.map enc)).at c i f)=(enc l[k]).drop f:=by
  subst hi
  simp only[AM.at,if_true]
  rw[List.getElem?_map,List.getElem?_eq_getElem h]; rfl
theorem qZ {l:List α} {c k i:Nat} (hi:i=k) (h:k<l.length) (hc:(enc l[k]).length=c):Nat.ble c ((AM.buf c (l.map enc)).at c i 0).length=true:=by
  rw[aD3 hi h,List.drop_zero,hc]; exact Nat.ble_eq_true_of_le (Nat.le_refl _)
theorem oD {l:List α} {c k i:Nat} (hi:i=k) (h:k<l.length) (hc:(enc l[k]).length=c):((AM.buf c (l.map enc)).at c i 0).take c=enc l[k]:=by
  rw[aD3 hi h,List.drop_zero,← hc,List.take_length]
theorem aJ9 {l:List α} {c k i:Nat} (hi:i=k) (h:k<l.length) (f:Nat):((AM.buf c (l.map enc)).at c i f)[0]?=(enc l[k])[f]?:=by
  rw[aD3 hi h,List.getElem?_drop]; simp
theorem hU {l:List α} {c k f i:Nat} {v:α} {rs:List AV} (hi:i=k) (h:k<l.length) (hs:splice (enc l[k]) f rs=enc v) (hf:f+rs.length≤c):(AM.buf c (l.map enc)).store c i f rs=some (.buf c ((l.set k v).map enc)):=by
  subst hi
  have h1:(l.map enc)[i]?=some (enc l[i]):=by rw[List.getElem?_map,List.getElem?_eq_getElem h]; rfl
  simp only[AM.store,h1]
  rw[if_pos (by simpa using hf),hs]
  simp only[List.map_set]
theorem aK7 {f k:Nat} {args:List AV} {R:List (List AV)→Prop} (h:DenO P f args k R):Den P f args (fun r=>∃ ys,R ys∧r=.sl k ys):=by
  intro A w vals hA hr
  refine(h A w vals hA hr).mono ?_
  rintro e w' ⟨v,ys,x,rfl,hR,hx,hE,hm,hv⟩
  have hxA:∀ b,x=some b→¬ A b:=fun b hb hAb=>by have h1:=hA b hAb; have h2:=hx b hb; omega
  have hmem:=aA5 hxA hm
  have hc:=RelV.conv hmem hv
  refine⟨v,_,rfl,⟨ys,hR,rfl⟩,⟨hE.os,hE.tape,hE.output,hE.size,hE.A,fun b hb=>?_,hE.others,fun g x hx=>by cases hx⟩,?_⟩
  · exact⟨⟨(hE.stab b hb).1.1,(fun _ h=>by cases h),(hE.stab b hb).1.2.2⟩,(hE.stab b hb).2⟩
  · rw[cL (g:=E0) rfl rfl] at hc
    exact hc
theorem cZ {f k:Nat} {args:List AV} {ys:List (List AV)} (h:DenO P f args k (·=ys)):Den P f args (·=.sl k ys) :=
  (aK7 h).mono (by rintro _ ⟨_,rfl,rfl⟩; rfl)
theorem qG {a b:List α} {k:Nat} [DecidableEq α] (h1:k<a.length) (h2:k<b.length) (h:¬ a[k]=b[k]):decide (a=b)=false:=by
  rw[decide_eq_false_iff_not]; intro e; subst e; exact h rfl
theorem sF {a b:List α} [DecidableEq α] (h:¬ a.length=b.length):decide (a=b)=false:=by
  rw[decide_eq_false_iff_not]; intro e; subst e; exact h rfl
theorem qF {a b:List α} {k:Nat} (h1:k<a.length) (h2:k<b.length) (h:a.take k=b.take k) (he:a[k]=b[k]):a.take (k+1)=b.take (k+1):=by
  rw[List.take_add_one,List.take_add_one,h,List.getElem?_eq_getElem h1,List.getElem?_eq_getElem h2,he]
theorem sG {a b:List α} {k:Nat} [DecidableEq α] (h1:a.length≤k) (h2:b.length≤k) (h:a.take k=b.take k):decide (a=b)=true:=by
  rw[decide_eq_true_iff]
  rwa [List.take_of_length_le h1,List.take_of_length_le h2] at h
def oO (p:α→Bool) (l:List α):Int:=match l.findIdx? p with | some i=>(i:Nat) | none=>-1
theorem nG {p:α→Bool} {l:List α} {k:Nat} (hk:k<l.length) (h:∀ (j:Nat) (hj:j<l.length),j<k→p l[j]=false) (hp:p l[k]=true):oO p l=(k:Nat):=by
  have:l.findIdx? p=some k:=by
    rw[List.findIdx?_eq_some_iff_getElem]
    exact⟨hk,hp,fun j hj=>by rw[h j (by omega) hj]; simp⟩
  simp [oO,this]
theorem pF {p:α→Bool} {l:List α} (h:∀ (j:Nat) (hj:j<l.length),p l[j]=false):oO p l=-1:=by
  have:l.findIdx? p=none:=by
    rw[List.findIdx?_eq_none_iff]
    intro x hx
    obtain ⟨j,hj,rfl⟩:=List.getElem_of_mem hx
    exact h j hj
  simp [oO,this]
theorem eE (p:α→Bool) (l:List α):(oO p l=-1∧∀ x∈l,p x=false)∨(∃ k:Nat,∃ h:k<l.length,oO p l=(k:Nat)∧p l[k]=true∧∀ (j:Nat) (hj:j<l.length),j<k→p l[j]=false):=by
  unfold oO
  cases h:l.findIdx? p with
  | none =>
    left
    rw[List.findIdx?_eq_none_iff] at h
    exact⟨rfl,h⟩
  | some k =>
    right
    rw[List.findIdx?_eq_some_iff_getElem] at h
    obtain ⟨h1,h2,h3⟩:=h
    exact⟨k,h1,rfl,h2,fun j hj hk=>by simpa using h3 j hk⟩
theorem qB (p:α→Bool) (l:List α):decide (0≤oO p l)=l.any p:=by
  rcases eE p l with ⟨h1,h2⟩ | ⟨k,h,h1,h2,_⟩
  · rw[h1,Bool.eq_iff_iff]
    simp only[decide_eq_true_eq,List.any_eq_true]
    constructor
    · intro h; omega
    · rintro ⟨x,hx,hp⟩; rw[h2 x hx] at hp; cases hp
  · rw[h1,Bool.eq_iff_iff]
    simp only[decide_eq_true_eq,List.any_eq_true]
    exact⟨fun _=>⟨_,List.getElem_mem h,h2⟩,fun _=>by omega⟩
theorem wW {β:Type} (l:List α) (f:β→α→β) (i:β) (k:Nat) (h:k<l.length):(l.take (k+1)).foldl f i=f ((l.take k).foldl f i) l[k]:=by
  rw[List.take_add_one,List.getElem?_eq_getElem h,List.foldl_append]; rfl
theorem pM {β:Type} (l:List α) (f:α→β) (k:Nat) (h:k<l.length):(l.take (k+1)).map f=(l.take k).map f++[f l[k]]:=by
  rw[List.take_add_one,List.getElem?_eq_getElem h,List.map_append]; rfl
theorem pB (l:List α) (k:Nat) (h:k<l.length):(l.take (k+1)).length=(l.take k).length+1:=by simp; omega
theorem nZ (l:List α) (p:α→Bool) (k:Nat) (h:k<l.length):(l.take (k+1)).filter p=(l.take k).filter p++(if p l[k]=true then [l[k]] else []):=by
  rw[List.take_add_one,List.getElem?_eq_getElem h,List.filter_append]
  simp only[Option.toList]
  split
  · rename_i hp; simp [hp]
  · rename_i hp; simp [hp]
theorem hJ {β:Type} (l:List (List β)) (k:Nat) (h:k<l.length):(l.take (k+1)).flatten=(l.take k).flatten++l[k]:=by
  rw[List.take_add_one,List.getElem?_eq_getElem h,List.flatten_append]; simp
theorem rD {β:Type} (l:List (List β)) (k:Nat):(l.take k).flatten.length≤l.flatten.length:=by
  have:l.flatten=(l.take k).flatten++(l.drop k).flatten:=by rw[← List.flatten_append,List.take_append_drop]
  rw[this,List.length_append]; omega
def iR (q:α→Bool) (l:List α) (j:Nat):List α:=(l.take j).filter q++l.drop ((l.take j).filter q).length
theorem gV (q:α→Bool) (l:List α) (j:Nat):((l.take j).filter q).length≤j:=Nat.le_trans (List.length_filter_le _ _) (by simp; omega)
theorem gJ (q:α→Bool) (l:List α) (j:Nat):((l.take j).filter q).length≤l.length:=Nat.le_trans (List.length_filter_le _ _) (by simp; omega)
theorem eF (q:α→Bool) (l:List α) (j:Nat):(iR q l j).length=l.length:=by
  have:=gJ q l j
  simp only[iR,List.length_append,List.length_drop]; omega
theorem pG (q:α→Bool) (l:List α) (j i:Nat) (hi:i<l.length) (h:((l.take j).filter q).length≤i):(iR q l j)[i]'(by rw[eF]; exact hi)=l[i]:=by
  simp only[iR]
  rw[List.getElem_append_right h]
  simp only[List.getElem_drop]
  congr 1
  omega
theorem jJ (q:α→Bool) (l:List α) (j:Nat) (hj:j<l.length) (hq:q l[j]=true):(iR q l j).set ((l.take j).filter q).length l[j]=iR q l (j+1):=by
  have h1:=gV q l j
  have h2:(l.take (j+1)).filter q=(l.take j).filter q++[l[j]]:=by rw[nZ l q j hj,if_pos hq]
  simp only[iR,h2,List.length_append,List.length_cons,List.length_nil]
  rw[List.set_append_right _ _ (Nat.le_refl _),Nat.sub_self,List.append_assoc]
  congr 1
  rw[List.drop_eq_getElem_cons (show ((l.take j).filter q).length<l.length by omega),List.set_cons_zero]; rfl
theorem jK (q:α→Bool) (l:List α) (j:Nat) (hj:j<l.length) (hq:¬ q l[j]=true):iR q l j=iR q l (j+1):=by
  have h2:(l.take (j+1)).filter q=(l.take j).filter q:=by rw[nZ l q j hj,if_neg hq]; simp
  simp only[iR,h2]
theorem kT (q:α→Bool) (l:List α) (k:Nat) (hk:k<l.length) (h:∀ (j:Nat) (hj:j<l.length),j<k→q l[j]=true) (hq:q l[k]=false):iR q l (k+1)=l∧((l.take (k+1)).filter q).length=k:=by
  have h1:(l.take k).filter q=l.take k:=by
    rw[List.filter_eq_self]
    intro x hx
    obtain ⟨j,hj,rfl⟩:=List.getElem_of_mem hx
    simp at hj
    rw[List.getElem_take]
    exact h j (by omega) (by omega)
  have h2:(l.take (k+1)).filter q=l.take k:=by rw[nZ l q k hk,if_neg (by rw[hq]; simp),h1]; simp
  refine⟨?_,by rw[h2]; simp; omega⟩
  simp only[iR,h2,List.length_take]
  rw[Nat.min_eq_left (by omega),List.take_append_drop]
theorem nJ (q:α→Bool) (l:List α) (j:Nat) (h:l.length≤j):(iR q l j).take (l.filter q).length=l.filter q:=by
  simp only[iR,List.take_of_length_le h]
  rw[List.take_left]
theorem lW (q:α→Bool) (l:List α) (j:Nat) (hj:j<l.length) (hq:q l[j]=true):(((l.take j).filter q).length:Int)+1=(((l.take (j+1)).filter q).length:Nat):=by
  rw[nZ l q j hj,if_pos hq]; simp
theorem lX (q:α→Bool) (l:List α) (j:Nat) (hj:j<l.length) (hq:¬ q l[j]=true):(l.take j).filter q=(l.take (j+1)).filter q:=by
  rw[nZ l q j hj,if_neg hq]; simp
theorem fS (p:α→Bool) (l:List α) (h:∀ x∈l,p x=false):l.filter (fun x=>!p x)=l:=by
  rw[List.filter_eq_self]; intro x hx; simp [h x hx]
theorem aRc {β:Type} {a b:Nat} {x y:β} {m:List (Nat×β)} {g:Nat} (h:a≠b):bU ((a,x)::(b,y)::m) g=bU ((b,y)::(a,x)::m) g:=by
  simp only[bU]
  by_cases h1:a=g
  · have h2:¬ b=g:=fun e=>h (h1.trans e.symm)
    rw[if_pos h1,if_neg h2,if_pos h1]
  · rw[if_neg h1,if_neg h1]
theorem mU {n:Nat} {sl:List (Nat×AV)} {m:Mem} {d:Nat} {x:Operand} {kd:IntKind} {z:Int} (hx:ev sl x=some (.s (.int kd z))) (hz:0≤z):bnd ⟨n,sl,m⟩ d (some x)=some z.toNat:=by
  simp only[bnd,cQ hx]; rw[if_pos hz]
theorem cN {n:Nat} {sl sl':List (Nat×AV)} {m m':Mem} (h:nU sl sl') (hm:m=m'):Le ⟨n,sl,m⟩ ⟨n,sl',m'⟩:=hm ▸ jU h
end Go.Abs
set_option linter.unusedVariables false
set_option linter.unusedSimpArgs false
namespace Go.Abs
open Go
def zO (l:List ByteArray):List (List AV):=l.map fun s=>[.s (.string s)]
theorem gG {l:List ByteArray} {k:Nat} (h:k<l.length):(zO l)[((k:Nat):Int).toNat]?=some [.s (.string l[k])]:=by
  rw[Int.toNat_natCast]; simp [zO,h]
theorem iN (l:List ByteArray):(zO l).length=l.length:=by simp [zO]
abbrev TS (s:ByteArray):Prop:=s.size≤9223372036854775807
abbrev TL (l:List ByteArray):Prop:=l.length≤9223372036854775807∧∀ s∈l,TS s
def dN (a b:List UInt8):Int:=match a,b with
  | [],[]=>0
  | [],_::_=>-1
  | _::_,[]=>1
  | x::a,y::b=>if x<y then -1 else if x > y then 1 else dN a b
theorem tC (a b:ByteArray) (k:Nat) (ha:k<a.size) (hb:k<b.size) :
    dN (a.data.toList.drop k) (b.data.toList.drop k)=if a[k]<b[k] then -1 else if a[k] > b[k] then 1 else dN (a.data.toList.drop (k+1)) (b.data.toList.drop (k+1)):=by
  rw[List.drop_eq_getElem_cons (l:=a.data.toList) (by simpa using ha),List.drop_eq_getElem_cons (l:=b.data.toList) (by simpa using hb)]
  rfl
theorem lZ (a b:ByteArray) (k:Nat) (h1:k≤a.size) (h2:k≤b.size) (h:a.size≤k∨b.size≤k) :
    dN (a.data.toList.drop k) (b.data.toList.drop k)=if a.size<b.size then -1 else if b.size<a.size then 1 else 0:=by
  have la:(a.data.toList.drop k).length=a.size - k:=by simp
  have lb:(b.data.toList.drop k).length=b.size - k:=by simp
  generalize a.data.toList.drop k=x at *
  generalize b.data.toList.drop k=y at *
  cases x <;> cases y <;> simp_all[dN] <;> (repeat' split) <;> first | rfl | omega
def eG (a b:ByteArray):Int:=dN a.data.toList b.data.toList
def eN (c:UInt8):Bool:=(decide (97≤c.toNat)&&decide (c.toNat≤122))||(decide (48≤c.toNat)&&decide (c.toNat≤57))
def cK (s:ByteArray):Bool:=decide (1≤s.size)&&decide (s.size≤12)&&s.data.toList.all eN
theorem mV (p:UInt8→Bool) (s:ByteArray) (k:Nat) (h:k<s.size):(s.data.toList.drop k).all p=(p s[k]&&(s.data.toList.drop (k+1)).all p):=by
  rw[List.drop_eq_getElem_cons (l:=s.data.toList) (by simpa using h)]; rfl
theorem aIw (p:UInt8→Bool) (s:ByteArray) (k:Nat) (h:s.size≤k):(s.data.toList.drop k).all p=true:=by
  rw[List.drop_eq_nil_of_le (by simpa using h)]; rfl
theorem kD (c:UInt8):eN c=true↔(97≤c.toNat∧c.toNat≤122)∨(48≤c.toNat∧c.toNat≤57):=by
  simp [eN]
theorem nY (a:ByteArray):a.toList=a.data.toList:=ByteArray.toList_eq a
theorem aKg:∀ x y:List UInt8,Op.bytesLess x y=decide (dN x y<0)
  | [],[]=>rfl
  | [],_::_=>rfl
  | _::_,[]=>rfl
  | a::x,b::y=>by
    have ih:=aKg x y
    simp only[Op.bytesLess,dN]
    by_cases h1:a<b
    · simp [h1]
    · by_cases h2:a=b
      · subst h2
        have:¬ a<a:=by rw[UInt8.lt_iff_toNat_lt]; omega
        simp [this,ih]
      · have h3:b<a:=by
          rw[UInt8.lt_iff_toNat_lt] at h1 ⊢
          have:a.toNat≠b.toNat:=fun h=>h2 (UInt8.toNat_inj.1 h)
          omega
        simp [h1,h2,h3]
theorem xN:∀ x y:List UInt8,dN x y=0↔x=y
  | [],[]=>by simp [dN]
  | [],_::_=>by simp [dN]
  | _::_,[]=>by simp [dN]
  | a::x,b::y=>by
    have ih:=xN x y
    simp only[dN]
    by_cases h1:a<b
    · have:a≠b:=fun h=>by subst h; rw[UInt8.lt_iff_toNat_lt] at h1; omega
      simp [h1,this]
    · by_cases h2:b<a
      · have:a≠b:=fun h=>by subst h; exact h1 h2
        simp [h1,h2,this]
      · have:a=b:=UInt8.toNat_inj.1 (by rw[UInt8.lt_iff_toNat_lt] at h1 h2; omega)
        simp [h1,h2,this,ih]
theorem zB:∀ x y:List UInt8,dN y x=- dN x y
  | [],[]=>rfl
  | [],_::_=>rfl
  | _::_,[]=>rfl
  | a::x,b::y=>by
    have ih:=zB x y
    simp only[dN]
    by_cases h1:a<b
    · have:¬ b<a:=by rw[UInt8.lt_iff_toNat_lt] at h1 ⊢; omega
      simp [h1,this]
    · by_cases h2:b<a <;> simp [h1,h2,ih]
theorem wR:∀ x y:List UInt8,dN x y=-1∨dN x y=0∨dN x y=1
  | [],[]=>by simp [dN]
  | [],_::_=>by simp [dN]
  | _::_,[]=>by simp [dN]
  | a::x,b::y=>by
    have ih:=wR x y
    simp only[dN]
    split
    · simp
    · split
      · simp
      · exact ih
theorem nV:∀ x y z:List UInt8,dN x y≤0→dN y z≤0→dN x z≤0∧(dN x z=0→dN x y=0∧dN y z=0)
  | [],[],z=>by intro _ h; exact⟨h,fun h'=>⟨rfl,h'⟩⟩
  | [],b::y,[]=>by intro _ h; simp [dN] at h
  | [],b::y,c::z=>by intro _ _; simp [dN]
  | a::x,[],z=>by intro h; simp [dN] at h
  | a::x,b::y,[]=>by intro _ h; simp [dN] at h
  | a::x,b::y,c::z=>by
    have ih:=nV x y z
    simp only[dN]
    by_cases h1:a<b <;> by_cases h2:b<c <;> by_cases h3:a<c <;> by_cases h4:b<a <;> by_cases h5:c<b <;> by_cases h6:c<a <;>
      simp only[UInt8.lt_iff_toNat_lt,gt_iff_lt] at h1 h2 h3 h4 h5 h6 ⊢ <;> (try omega) <;> simp [h1,h2,h3,h4,h5,h6] <;> exact ih
theorem tD (a b:ByteArray):eG a b=0↔a=b:=by
  unfold eG; rw[xN]
  constructor
  · intro h; cases a; cases b; simp only[ByteArray.mk.injEq] at *; exact Array.toList_inj.1 h
  · rintro rfl; rfl
theorem pI (a b:ByteArray):eG b a=- eG a b:=zB _ _
theorem qJ (a b:ByteArray):eG a b=-1∨eG a b=0∨eG a b=1:=wR _ _
theorem aGd {a b c:ByteArray} (h1:eG a b≤0) (h2:eG b c≤0):eG a c≤0:=(nV _ _ _ h1 h2).1
theorem gR {a b c:ByteArray} (h1:eG a b<0) (h2:eG b c<0):eG a c<0:=by
  have h:=nV a.data.toList b.data.toList c.data.toList (Int.le_of_lt h1) (Int.le_of_lt h2)
  have h3:=qJ a c
  unfold eG at *
  omega
theorem wI {a b c:ByteArray} (h1:eG a b<0) (h2:eG b c≤0):eG a c<0:=by
  have h:=nV a.data.toList b.data.toList c.data.toList (Int.le_of_lt h1) h2
  unfold eG at *
  omega
theorem rP (a b:ByteArray):Op.bytesLess a.toList b.toList=true↔eG a b<0:=by
  rw[nY,nY,aKg]; simp [eG]
theorem nQ (a b:ByteArray):a.toList=b.toList↔eG a b=0:=by
  rw[nY,nY,← xN]; rfl
def bH (l:List Int):List (List AV):=l.map fun a=>[.s (.int .i64 a)]
theorem nT {l:List Int} {k:Nat} (h:k<l.length):(bH l)[((k:Nat):Int).toNat]?=some [.s (.int .i64 l[k])]:=by
  rw[Int.toNat_natCast]; simp [bH,h]
theorem dW (l:List Int):(bH l).length=l.length:=by simp [bH]
def orI:List Int→Int
  | []=>0
  | a::l=>if a≠0 then a else orI l
theorem aKb (l:List Int) (k:Nat) (h:k<l.length):orI (l.drop k)=if l[k]≠0 then l[k] else orI (l.drop (k+1)):=by
  rw[List.drop_eq_getElem_cons h]; rfl
theorem orI_end (l:List Int) (k:Nat) (h:l.length≤k):orI (l.drop k)=0:=by rw[List.drop_eq_nil_of_le h]; rfl
theorem aG1 (p:ByteArray→Bool) (l:List ByteArray) (k:Nat) (h:k<l.length):(l.drop k).all p=(p l[k]&&(l.drop (k+1)).all p):=by
  rw[List.drop_eq_getElem_cons h]; rfl
theorem aTn (p:ByteArray→Bool) (l:List ByteArray) (k:Nat) (h:l.length≤k):(l.drop k).all p=true:=by
  rw[List.drop_eq_nil_of_le h]; rfl
def yL (s:ByteArray):List ByteArray→Bool→List ByteArray
  | [],d=>if d then [] else [s]
  | x::r,d=>let c:=eG s x; let d1:=d||decide (c=0); if c<0∧d1=false then s::x::yL s r true else x::yL s r d1
def putL (l:List ByteArray) (s:ByteArray):List ByteArray:=yL s l false
theorem aAx (s:ByteArray) (l:List ByteArray) (k:Nat) (d:Bool) (h:l.length≤k):yL s (l.drop k) d=if d then [] else [s]:=by rw[List.drop_eq_nil_of_le h]; rfl
instance:DecidableEq ByteArray:=inferInstance
theorem toList_inj {a b:ByteArray}:a.toList=b.toList↔a=b:=by rw[nQ,tD]
def vZ (a b c d:ByteArray):Int:=orI [eG a c,eG b d]
def mO (a b s:ByteArray):Bool:=decide (a=s)||decide (b=s)
structure PutInv (l:List ByteArray) (s:ByteArray) (k n:Nat) (outv:List (List AV)) (d:Bool):Prop where
  hn:n=outv.length
  hk:k≤l.length
  out:∃ out,outv=zO out∧putL l s=out++yL s (l.drop k) d∧out.length≤2*k
theorem PutInv.start (l:List ByteArray) (s:ByteArray):PutInv l s 0 0 [] false:=⟨rfl,Nat.zero_le _,[],rfl,rfl,by simp⟩
theorem PutInv.fin_t {l:List ByteArray} {s:ByteArray} {k n:Nat} {outv:List (List AV)} {d:Bool} (h:PutInv l s k n outv d) (hk:l.length≤k) (hd:d=true):outv=zO (putL l s):=by
  obtain ⟨e1,e2,out,e3,e4,e5⟩:=h
  subst hd
  rw[e4,aAx s l k true hk,e3]; simp
theorem PutInv.fin_f {l:List ByteArray} {s:ByteArray} {k n:Nat} {outv:List (List AV)} {d:Bool} (h:PutInv l s k n outv d) (hk:l.length≤k) (hd:d=false):outv++[[.s (.string s)]]=zO (putL l s):=by
  obtain ⟨e1,e2,out,e3,e4,e5⟩:=h
  subst hd
  rw[e4,aAx s l k false hk,e3]; simp [zO]
theorem PutInv.le {l:List ByteArray} {s:ByteArray} {k n:Nat} {outv:List (List AV)} {d:Bool} (h:PutInv l s k n outv d):n≤2*k:=by
  obtain ⟨e1,e2,out,e3,e4,e5⟩:=h
  rw[e1,e3,iN]; exact e5
end Go.Abs
set_option linter.unusedVariables false
set_option linter.unusedSimpArgs false
namespace Go.Proofs.YtijnkglkchhomaaGreat.Nm
open Go Go.Abs
theorem refCmp_den (a b:ByteArray) (ha:TS a) (hb:TS b) :Den Tryz.prog 49 [.s (.string a),.s (.string b)]  (·=.s (.int .i64 (eG a b))):=by
 unfold eG
 refine aY Tryz.func49 rfl (Nat.le_of_ble_eq_true rfl) (fun w0 A hf=>(aC (fun K1 hK1=>(aB (aE aA 1 rfl (aD (hK1 _ (aC (fun K2 hK2=>(aC (fun K3 hK3=>(aB (aE aA 1 rfl (aD (hK3 _ (aU ?_))))))))))))))))
 refine bW (ι:=Nat) (fun k=>⟨42,[(0,.s (.string a)),(1,.s (.string b)),(5,.s (.int .i64 (k:Nat)))],[]⟩) (fun k=>k≤a.size∧k≤b.size∧dN a.data.toList b.data.toList=dN (a.data.toList.drop k) (b.data.toList.drop k)) (fun k=>a.size - k) 0 ?_ ?_ ?_
 · exact⟨by omega,by omega,rfl⟩
 · exact cU rfl
 ·
  rintro k hC
  obtain ⟨h1,h2,hcmp⟩:=hC
  refine aC (fun K4 hK4=>(aC (fun K5 hK5=>(aB (aE aA 2 rfl (aI rfl (fQ rfl Tryz.underlying9) (aE aA 2 rfl (bA rfl rfl rfl (fun hg1=>?_) (fun hg1=>?_)))))))))
  ·
   simp only[bs] at hg1
   refine aI rfl (fV rfl) (aE aA 1 rfl (bF rfl rfl rfl (aI rfl (fQ rfl Tryz.underlying9) (aE aA 2 rfl (aD (hK5 _ (aO rfl (fun hc2=>?_) (fun hc2=>?_))))))))
   ·
    simp only[bs] at hc2
    refine aR (hK4 _ (aC (fun K6 hK6=>(aU (aC (fun K7 hK7=>(aC (fun K8 hK8=>(dE hf bK (by kernel_rfl) rfl (bC aA 2 rfl (bN [(18,_),(19,_)] rfl rfl ⟨⟨rfl,rfl⟩,⟨rfl,rfl⟩,trivial⟩ rfl (pD rfl rfl Tryz.underlying9 (by first | assumption | (refine⟨by omega,?_⟩; first | assumption | exact zP (by omega)))) ?_)))))))))))
    refine bC aA 2 rfl (bN [(21,_),(22,_)] rfl rfl ⟨⟨rfl,rfl⟩,⟨rfl,rfl⟩,trivial⟩ rfl (pD rfl rfl Tryz.underlying9 (by first | assumption | (refine⟨by omega,?_⟩; first | assumption | exact zP (by omega)))) ?_)
    refine bC aA 1 rfl (dC [0,1,5,24] rfl rfl rfl (hK8 _ (aO rfl (fun hc3=>?_) (fun hc3=>?_))))
    ·
     simp only[bs] at hc3
     refine aC (fun K9 hK9=>(aB (aE aA 1 rfl (aD (hK9 _ (aM ?_))))))
     refine⟨_,rfl,?_⟩
     refine eP ?_
     rw[hcmp,tC a b k (by omega) (by omega),if_pos (by rw[UInt8.lt_iff_toNat_lt]; omega)]
    ·
     simp only[bs] at hc3
     refine aR (hK7 _ (aC (fun K10 hK10=>(dE hf bK (by kernel_rfl) rfl (bC aA 2 rfl (bN [(25,_),(26,_)] rfl rfl ⟨⟨rfl,rfl⟩,⟨rfl,rfl⟩,trivial⟩ rfl (pD rfl rfl Tryz.underlying9 (by first | assumption | (refine⟨by omega,?_⟩; first | assumption | exact zP (by omega)))) ?_))))))
     refine bC aA 2 rfl (bN [(28,_),(29,_)] rfl rfl ⟨⟨rfl,rfl⟩,⟨rfl,rfl⟩,trivial⟩ rfl (pD rfl rfl Tryz.underlying9 (by first | assumption | (refine⟨by omega,?_⟩; first | assumption | exact zP (by omega)))) ?_)
     refine bC aA 1 rfl (dC [0,1,5,31] rfl rfl rfl (hK10 _ (aO rfl (fun hc4=>?_) (fun hc4=>?_))))
     ·
      simp only[bs] at hc4
      refine aC (fun K11 hK11=>(aB (aE aA 1 rfl (aD (hK11 _ (aM ?_))))))
      refine⟨_,rfl,?_⟩
      refine eP ?_
      rw[hcmp,tC a b k (by omega) (by omega),if_neg (by rw[UInt8.lt_iff_toNat_lt]; omega),if_pos (by show b[k]<a[k]; rw[UInt8.lt_iff_toNat_lt]; omega)]
     ·
      simp only[bs] at hc4
      refine aR (hK6 _ (aB (aE aA 1 rfl ?_)))
      refine aI rfl (bQ rfl rfl (by omega) (by omega)) ?_
      refine aE aA 1 rfl (aD ?_)
      exact⟨k+1,⟨by omega,by omega,by rw[hcmp,tC a b k (by omega) (by omega),if_neg (by rw[UInt8.lt_iff_toNat_lt]; omega),if_neg (by show ¬ b[k]<a[k]; rw[UInt8.lt_iff_toNat_lt]; omega)]⟩,by omega,cU rfl⟩
   ·
    simp only[bs] at hc2
    refine bI (hK2 _ (aC (fun K12 hK12=>(aC (fun K13 hK13=>(aB (aE aA 1 rfl (aI rfl (fQ rfl Tryz.underlying9) (aE aA 1 rfl (aI rfl (fQ rfl Tryz.underlying9) (aE aA 1 rfl (aD (hK13 _ (aO rfl (fun hc5=>?_) (fun hc5=>?_)))))))))))))))
    ·
     simp only[bs] at hc5
     refine aC (fun K14 hK14=>(aB (aE aA 1 rfl (aD (hK14 _ (aM ?_))))))
     refine⟨_,rfl,?_⟩
     refine eP ?_
     rw[hcmp,lZ a b k h1 h2 (by omega)]
     (repeat' split) <;> first | rfl | omega
    ·
     simp only[bs] at hc5
     refine aR (hK12 _ (aC (fun K15 hK15=>(aC (fun K16 hK16=>(aB (aE aA 1 rfl (aI rfl (fQ rfl Tryz.underlying9) (aE aA 1 rfl (aI rfl (fQ rfl Tryz.underlying9) (aE aA 1 rfl (aD (hK16 _ (aO rfl (fun hc6=>?_) (fun hc6=>?_)))))))))))))))
     ·
      simp only[bs] at hc6
      refine aC (fun K17 hK17=>(aB (aE aA 1 rfl (aD (hK17 _ (aM ?_))))))
      refine⟨_,rfl,?_⟩
      refine eP ?_
      rw[hcmp,lZ a b k h1 h2 (by omega)]
      (repeat' split) <;> first | rfl | omega
     ·
      simp only[bs] at hc6
      refine aR (hK15 _ (aC (fun K18 hK18=>(aB (aE aA 1 rfl (aD (hK18 _ (aM ?_))))))))
      refine⟨_,rfl,?_⟩
      refine eP ?_
      rw[hcmp,lZ a b k h1 h2 (by omega)]
      (repeat' split) <;> first | rfl | omega
  ·
   simp only[bs] at hg1
   refine aE aA 4 rfl (aD (hK5 _ (bZ rfl (bI (hK2 _ (aC (fun K19 hK19=>(aC (fun K20 hK20=>(aB (aE aA 1 rfl (aI rfl (fQ rfl Tryz.underlying9) (aE aA 1 rfl (aI rfl (fQ rfl Tryz.underlying9) ?_))))))))))))))
   refine aE aA 1 rfl (aD (hK20 _ (aO rfl (fun hc8=>?_) (fun hc8=>?_))))
   ·
    simp only[bs] at hc8
    refine aC (fun K21 hK21=>(aB (aE aA 1 rfl (aD (hK21 _ (aM ?_))))))
    refine⟨_,rfl,?_⟩
    refine eP ?_
    rw[hcmp,lZ a b k h1 h2 (by omega)]
    (repeat' split) <;> first | rfl | omega
   ·
    simp only[bs] at hc8
    refine aR (hK19 _ (aC (fun K22 hK22=>(aC (fun K23 hK23=>(aB (aE aA 1 rfl (aI rfl (fQ rfl Tryz.underlying9) (aE aA 1 rfl (aI rfl (fQ rfl Tryz.underlying9) (aE aA 1 rfl (aD (hK23 _ (aO rfl (fun hc9=>?_) (fun hc9=>?_)))))))))))))))
    ·
     simp only[bs] at hc9
     refine aC (fun K24 hK24=>(aB (aE aA 1 rfl (aD (hK24 _ (aM ?_))))))
     refine⟨_,rfl,?_⟩
     refine eP ?_
     rw[hcmp,lZ a b k h1 h2 (by omega)]
     (repeat' split) <;> first | rfl | omega
    ·
     simp only[bs] at hc9
     refine aR (hK22 _ (aC (fun K25 hK25=>(aB (aE aA 1 rfl (aD (hK25 _ (aM ?_))))))))
     refine⟨_,rfl,?_⟩
     refine eP ?_
     rw[hcmp,lZ a b k h1 h2 (by omega)]
     (repeat' split) <;> first | rfl | omega
theorem aOe (c:UInt8) :Den Tryz.prog 196 [.s (.int .u8 (c.toNat:Int))]  (·=.s (.bool (eN c))):=by
 refine aY Tryz.func196 rfl (Nat.le_of_ble_eq_true rfl) (fun w0 A hf=>(aC (fun K1 hK1=>(aB (aE aA 1 rfl (aD (hK1 _ (aC (fun K2 hK2=>(aB (aE aA 3 rfl (bA rfl rfl rfl (fun hg1=>?_) (fun hg1=>?_)))))))))))))
 ·
  simp only[bs] at hg1
  refine aI rfl (fV rfl) (aE aA 3 rfl (bA rfl rfl rfl (fun hg2=>?_) (fun hg2=>?_)))
  ·
   simp only[bs] at hg2
   refine aI rfl (fV rfl) (aE aA 2 rfl (bA rfl rfl rfl (fun hg3=>?_) (fun hg3=>?_)))
   ·
    simp only[bs] at hg3
    refine aI rfl (fV rfl) (aE aA 4 rfl (aD (hK2 _ (aM ?_))))
    refine⟨_,rfl,?_⟩
    refine aQ ?_
    rw[Bool.eq_iff_iff]
    simp only[eN,Bool.or_eq_true,Bool.and_eq_true,decide_eq_true_eq,true_iff,Bool.false_eq_true,false_iff]
    omega
   ·
    simp only[bs] at hg3
    refine aE aA 4 rfl (aD (hK2 _ (aM ?_)))
    refine⟨_,rfl,?_⟩
    refine aQ ?_
    rw[Bool.eq_iff_iff]
    simp only[eN,Bool.or_eq_true,Bool.and_eq_true,decide_eq_true_eq,true_iff,Bool.false_eq_true,false_iff]
    omega
  ·
   simp only[bs] at hg2
   refine aE aA 2 rfl (gF rfl rfl rfl ?_)
   refine gF rfl rfl rfl ?_
   refine aE aA 3 rfl (aD (hK2 _ (aM ?_)))
   refine⟨_,rfl,?_⟩
   refine aQ ?_
   rw[Bool.eq_iff_iff]
   simp only[eN,Bool.or_eq_true,Bool.and_eq_true,decide_eq_true_eq,true_iff,Bool.false_eq_true,false_iff]
   omega
 ·
  simp only[bs] at hg1
  refine aE aA 6 rfl (bA rfl rfl rfl (fun hg4=>?_) (fun hg4=>?_))
  ·
   simp only[bs] at hg4
   refine aI rfl (fV rfl) (aE aA 4 rfl (aD (hK2 _ (aM ?_))))
   refine⟨_,rfl,?_⟩
   refine aQ ?_
   rw[Bool.eq_iff_iff]
   simp only[eN,Bool.or_eq_true,Bool.and_eq_true,decide_eq_true_eq,true_iff,Bool.false_eq_true,false_iff]
   omega
  ·
   simp only[bs] at hg4
   refine aE aA 4 rfl (aD (hK2 _ (aM ?_)))
   refine⟨_,rfl,?_⟩
   refine aQ ?_
   rw[Bool.eq_iff_iff]
   simp only[eN,Bool.or_eq_true,Bool.and_eq_true,decide_eq_true_eq,true_iff,Bool.false_eq_true,false_iff]
   omega
theorem right_den (s:ByteArray) (hs:TS s) :Den Tryz.prog 153 [.s (.string s)]  (·=.s (.bool (cK s))):=by
 refine aY Tryz.func153 rfl (Nat.le_of_ble_eq_true rfl) (fun w0 A hf=>(aC (fun K1 hK1=>(aB (aE aA 1 rfl (aD (hK1 _ (aC (fun K2 hK2=>(aC (fun K3 hK3=>(aB (aE aA 1 rfl (aI rfl (fQ rfl Tryz.underlying9) (aE aA 1 rfl (aD ?_))))))))))))))))
 refine hK3 _ (aU (bW (ι:=Nat) (fun k=>⟨23,[(0,.s (.string s)),(5,.s (.int .i64 (s.size:Nat))),(6,.s (.int .i64 (k:Nat)))],[]⟩) (fun k=>k≤s.size∧s.data.toList.all eN=(s.data.toList.drop k).all eN) (fun k=>s.size - k) 0 ?_ ?_ ?_))
 · exact⟨by omega,rfl⟩
 · exact cU rfl
 ·
  rintro k hC
  obtain ⟨h1,h2⟩:=hC
  refine aC (fun K4 hK4=>(aB (aE aA 1 rfl (aD (hK4 _ (aC (fun K5 hK5=>(aO rfl (fun hc1=>?_) (fun hc1=>?_)))))))))
  ·
   simp only[bs] at hc1
   refine aR (hK5 _ (aC (fun K6 hK6=>(aU (aC (fun K7 hK7=>(aB (aE aA 2 rfl (aD (hK7 _ (aC (fun K8 hK8=>(aB (aE aA 2 rfl (aI rfl (pD rfl rfl Tryz.underlying9 (by first | assumption | (refine⟨by omega,?_⟩; first | assumption | exact zP (by omega)))) ?_)))))))))))))))
   refine aN hf rfl (aP rfl rfl aMf rfl (aOe _)) (aE aA 1 rfl (aD (hK8 _ (aO rfl (fun hc2=>?_) (fun hc2=>?_)))))
   ·
    simp only[bs] at hc2
    refine aC (fun K9 hK9=>(aB (aE aA 1 rfl (aD (hK9 _ (aM ?_))))))
    refine⟨_,rfl,?_⟩
    refine aQ ?_
    rw[cK,h2,mV eN s k (by omega)]; simp_all
   ·
    simp only[bs] at hc2
    refine aR (hK6 _ (aB ?_))
    refine aI rfl (bQ rfl rfl (by omega) (by omega)) ?_
    refine aE aA 1 rfl (aD ?_)
    exact⟨k+1,⟨by omega,by rw[h2,mV eN s k (by omega)]; simp_all⟩,by omega,cU rfl⟩
  ·
   simp only[bs] at hc1
   refine bI (hK2 _ (aC (fun K10 hK10=>(aB (aE aA 1 rfl (aI rfl (fQ rfl Tryz.underlying9) (aE aA 2 rfl (bA rfl rfl rfl (fun hg3=>?_) (fun hg3=>?_)))))))))
   ·
    simp only[bs] at hg3
    refine aI rfl (fV rfl) (bF rfl rfl rfl (aI rfl (fQ rfl Tryz.underlying9) (aE aA 3 rfl (aD (hK10 _ (aM ?_))))))
    refine⟨_,rfl,?_⟩
    refine aQ ?_
    rw[cK,h2,aIw eN s k (by omega)]
    rw[Bool.eq_iff_iff]
    simp only[Bool.and_eq_true,decide_eq_true_eq,true_iff,Bool.false_eq_true,false_iff,and_true]
    omega
   ·
    simp only[bs] at hg3
    refine aE aA 4 rfl (aD (hK10 _ (aM ?_)))
    refine⟨_,rfl,?_⟩
    refine aQ ?_
    rw[cK,h2,aIw eN s k (by omega)]
    rw[Bool.eq_iff_iff]
    simp only[Bool.and_eq_true,decide_eq_true_eq,true_iff,Bool.false_eq_true,false_iff,and_true]
    omega
theorem refRight_den (s:ByteArray) (hs:TS s) :Den Tryz.prog 32 [.s (.string s)]  (·=.s (.bool (cK s))):=by
 refine aY Tryz.func32 rfl (Nat.le_of_ble_eq_true rfl) (fun w0 A hf=>(aC (fun K1 hK1=>(aB (aE aA 1 rfl (aD (hK1 _ (aC (fun K2 hK2=>(aC (fun K3 hK3=>(aB (aE aA 1 rfl (aI rfl (fQ rfl Tryz.underlying9) (aE aA 2 rfl (bA rfl rfl rfl (fun hg1=>?_) (fun hg1=>?_)))))))))))))))))
 ·
  simp only[bs] at hg1
  refine aI rfl (fV rfl) (bF rfl rfl rfl (aI rfl (fQ rfl Tryz.underlying9) (aE aA 2 rfl (aD (hK3 _ (aO rfl (fun hc2=>?_) (fun hc2=>?_)))))))
  ·
   simp only[bs] at hc2
   refine aC (fun K4 hK4=>(aB (aE aA 1 rfl (aD (hK4 _ (aM ?_))))))
   refine⟨_,rfl,?_⟩
   refine aQ ?_
   rw[eq_comm,cK,Bool.eq_false_iff]
   simp only[ne_eq,Bool.and_eq_true,decide_eq_true_eq]
   omega
  ·
   simp only[bs] at hc2
   refine aR (hK2 _ (aC (fun K5 hK5=>(aC (fun K6 hK6=>(aB (aE aA 1 rfl (aD (hK6 _ (aU (bW (ι:=Nat) (fun k=>⟨38,[(0,.s (.string s)),(3,.s (.int .i64 (k:Nat)))],[]⟩) (fun k=>k≤s.size∧s.data.toList.all eN=(s.data.toList.drop k).all eN) (fun k=>s.size - k) 0 ?_ ?_ ?_)))))))))))
   · exact⟨by omega,rfl⟩
   · exact cU rfl
   ·
    rintro k hC
    obtain ⟨h1,h2⟩:=hC
    refine aC (fun K7 hK7=>(aC (fun K8 hK8=>(aB (aE aA 2 rfl (aI rfl (fQ rfl Tryz.underlying9) (aE aA 1 rfl (aD (hK8 _ (aO rfl (fun hc3=>?_) (fun hc3=>?_)))))))))))
    ·
     simp only[bs] at hc3
     refine aR (hK7 _ (aC (fun K9 hK9=>(aU (aC (fun K10 hK10=>(aB (aE aA 2 rfl (aI rfl (pD rfl rfl Tryz.underlying9 (by first | assumption | (refine⟨by omega,?_⟩; first | assumption | exact zP (by omega)))) ?_)))))))))
     refine aE aA 1 rfl (aD (hK10 _ (aC (fun K11 hK11=>(aB (aE aA 3 rfl (bA rfl rfl rfl (fun hg4=>?_) (fun hg4=>?_))))))))
     ·
      simp only[bs] at hg4
      refine aI rfl (fV rfl) (aE aA 4 rfl (bA rfl rfl rfl (fun hg5=>?_) (fun hg5=>?_)))
      ·
       simp only[bs] at hg5
       refine aI rfl (fV rfl) (aE aA 2 rfl (bA rfl rfl rfl (fun hg6=>?_) (fun hg6=>?_)))
       ·
        simp only[bs] at hg6
        refine aI rfl (fV rfl) (aE aA 4 rfl (aD (hK11 _ (aO rfl (fun hc7=>?_) (fun hc7=>?_)))))
        ·
         simp only[bs] at hc7
         refine aC (fun K12 hK12=>(aB (aE aA 1 rfl (aD (hK12 _ (aM ?_))))))
         refine⟨_,rfl,?_⟩
         refine aQ ?_
         rw[cK,h2,mV eN s k (by omega),show eN s[k]=false from Bool.eq_false_iff.2 (fun h=>by have:=(kD _).1 h; omega)]; simp
        ·
         simp only[bs] at hc7
         refine aR (hK9 _ (aB (aE aA 1 rfl ?_)))
         refine aI rfl (bQ rfl rfl (by omega) (by omega)) ?_
         refine aE aA 1 rfl (aD ?_)
         exact⟨k+1,⟨by omega,by rw[h2,mV eN s k (by omega),(kD _).2 (by omega)]; rfl⟩,by omega,cU rfl⟩
       ·
        simp only[bs] at hg6
        refine aE aA 4 rfl (aD (hK11 _ (bP rfl (aC (fun K13 hK13=>(aB (aE aA 1 rfl (aD (hK13 _ (aM ?_))))))))))
        refine⟨_,rfl,?_⟩
        refine aQ ?_
        rw[cK,h2,mV eN s k (by omega),show eN s[k]=false from Bool.eq_false_iff.2 (fun h=>by have:=(kD _).1 h; omega)]; simp
      ·
       simp only[bs] at hg5
       refine aE aA 2 rfl (gF rfl rfl rfl ?_)
       refine gF rfl rfl rfl ?_
       refine aE aA 3 rfl (aD (hK11 _ (bZ rfl (aR (hK9 _ (aB (aE aA 1 rfl ?_)))))))
       refine aI rfl (bQ rfl rfl (by omega) (by omega)) ?_
       refine aE aA 1 rfl (aD ?_)
       exact⟨k+1,⟨by omega,by rw[h2,mV eN s k (by omega),(kD _).2 (by omega)]; rfl⟩,by omega,cU rfl⟩
     ·
      simp only[bs] at hg4
      refine aE aA 7 rfl (bA rfl rfl rfl (fun hg10=>?_) (fun hg10=>?_))
      ·
       simp only[bs] at hg10
       refine aI rfl (fV rfl) (aE aA 4 rfl (aD (hK11 _ (aO rfl (fun hc11=>?_) (fun hc11=>?_)))))
       ·
        simp only[bs] at hc11
        refine aC (fun K14 hK14=>(aB (aE aA 1 rfl (aD (hK14 _ (aM ?_))))))
        refine⟨_,rfl,?_⟩
        refine aQ ?_
        rw[cK,h2,mV eN s k (by omega),show eN s[k]=false from Bool.eq_false_iff.2 (fun h=>by have:=(kD _).1 h; omega)]; simp
       ·
        simp only[bs] at hc11
        refine aR (hK9 _ (aB (aE aA 1 rfl ?_)))
        refine aI rfl (bQ rfl rfl (by omega) (by omega)) ?_
        refine aE aA 1 rfl (aD ?_)
        exact⟨k+1,⟨by omega,by rw[h2,mV eN s k (by omega),(kD _).2 (by omega)]; rfl⟩,by omega,cU rfl⟩
      ·
       simp only[bs] at hg10
       refine aE aA 4 rfl (aD (hK11 _ (bP rfl (aC (fun K15 hK15=>(aB (aE aA 1 rfl (aD (hK15 _ (aM ?_))))))))))
       refine⟨_,rfl,?_⟩
       refine aQ ?_
       rw[cK,h2,mV eN s k (by omega),show eN s[k]=false from Bool.eq_false_iff.2 (fun h=>by have:=(kD _).1 h; omega)]; simp
    ·
     simp only[bs] at hc3
     refine bI (hK5 _ (aC (fun K16 hK16=>(aB (aE aA 1 rfl (aD (hK16 _ (aM ?_))))))))
     refine⟨_,rfl,?_⟩
     refine aQ ?_
     rw[cK,h2,aIw eN s k (by omega),eq_comm]
     simp only[Bool.and_eq_true,decide_eq_true_eq,and_true]
     omega
 ·
  simp only[bs] at hg1
  refine aE aA 3 rfl (aD (hK3 _ (bP rfl (aC (fun K17 hK17=>(aB (aE aA 1 rfl (aD (hK17 _ (aM ?_))))))))))
  refine⟨_,rfl,?_⟩
  refine aQ ?_
  rw[eq_comm,cK,Bool.eq_false_iff]
  simp only[ne_eq,Bool.and_eq_true,decide_eq_true_eq]
  omega
end Go.Proofs.YtijnkglkchhomaaGreat.Nm
set_option linter.unusedVariables false
set_option linter.unusedSimpArgs false
namespace Go.Proofs.YtijnkglkchhomaaGreat.Nm
open Go Go.Abs
theorem sC (s:ByteArray) :Den Tryz.prog 215 [.s (.string s)]  (·=.s (.bool false)):=by
 refine aY Tryz.func215 rfl (Nat.le_of_ble_eq_true rfl) (fun w0 A hf=>(aC (fun K1 hK1=>(aB (aE aA 1 rfl (aD (hK1 _ (aC (fun K2 hK2=>(aB (aE aA 4 rfl (aD (hK2 _ (aM ?_))))))))))))))
 refine⟨_,rfl,?_⟩
 refine aQ ?_
 simp
theorem iV (a b:ByteArray) :Den Tryz.prog 174 [.s (.string a),.s (.string b)]  (·=.s (.int .i64 (eG a b))):=by
 refine aY Tryz.func174 rfl (Nat.le_of_ble_eq_true rfl) (fun w0 A hf=>(aC (fun K1 hK1=>(aB (aE aA 1 rfl (aD (hK1 _ (aC (fun K2 hK2=>(aB (aE aA 1 rfl (aN hf rfl (aP rfl rfl aBn rfl (sC _)) (aE aA 1 rfl (aD (hK2 _ ?_)))))))))))))))
 refine aC (fun K3 hK3=>(aB (aE aA 1 rfl (aN hf rfl (aP rfl rfl aBn rfl (sC _)) (aE aA 1 rfl (aD (hK3 _ (aC (fun K4 hK4=>(aC (fun K5 hK5=>(aB (aE aA 1 rfl (aD (hK5 _ ?_)))))))))))))))
 refine bZ rfl (aR (hK4 _ (aC (fun K6 hK6=>(aC (fun K7 hK7=>(aB (aE aA 1 rfl (aD (hK7 _ (bZ rfl (aR (hK6 _ (aC (fun K8 hK8=>?_)))))))))))))))
 refine aC (fun K9 hK9=>(aB (aE aA 3 rfl (aD (hK9 _ (aO rfl (fun hc3=>?_) (fun hc3=>?_)))))))
 ·
  refine aC (fun K10 hK10=>(aB (aE aA 1 rfl (aD (hK10 _ (aM ?_))))))
  refine⟨_,rfl,?_⟩
  refine eP ?_
  have h1:=rP a b
  have h2:=nQ a b
  have h3:=qJ a b
  have:=h1.1 (by assumption)
  omega
 ·
  refine aR (hK8 _ (aC (fun K11 hK11=>(aC (fun K12 hK12=>(aB (aE aA 3 rfl (aD (hK12 _ (aO rfl (fun hc4=>?_) (fun hc4=>?_)))))))))))
  ·
   simp only[bs,iN,dW,List.length_cons,List.length_nil] at hc4
   refine aC (fun K13 hK13=>(aB (aE aA 1 rfl (aD (hK13 _ (aM ?_))))))
   refine⟨_,rfl,?_⟩
   refine eP ?_
   have h1:=rP a b
   have h2:=nQ a b
   have h3:=qJ a b
   have h4:¬ eG a b<0:=fun h=>by have e:=h1.2 h; simp_all
   have h5:¬ eG a b=0:=fun h=>by have e:=h2.2 h; simp_all
   omega
  ·
   simp only[bs,iN,dW,List.length_cons,List.length_nil] at hc4
   refine aR (hK11 _ (aC (fun K14 hK14=>(aB (aE aA 1 rfl (aD (hK14 _ (aM ?_))))))))
   refine⟨_,rfl,?_⟩
   refine eP ?_
   have h1:=rP a b
   have h2:=nQ a b
   have h3:=qJ a b
   have h4:¬ eG a b<0:=fun h=>by have e:=h1.2 h; simp_all
   have h5:eG a b=0:=h2.1 (by simp_all)
   omega
theorem cmp_den (a b:ByteArray) :Den Tryz.prog 113 [.s (.string a),.s (.string b)]  (·=.s (.int .i64 (eG a b))):=by
 refine aY Tryz.func113 rfl (Nat.le_of_ble_eq_true rfl) (fun w0 A hf=>(aC (fun K1 hK1=>(aB (aE aA 1 rfl (aD (hK1 _ (aC (fun K2 hK2=>(aB (aE aA 2 rfl (aN hf rfl (aP rfl rfl aMp rfl (iV _ _)) (aE aA 1 rfl (aD (hK2 _ ?_)))))))))))))))
 refine aM ?_
 refine⟨_,rfl,?_⟩
 rfl
theorem aT5 (s:ByteArray) (hs:TS s) :Den Tryz.prog 198 [.s (.string s)]  (·=.s (.bool (!cK s))):=by
 refine aY Tryz.func198 rfl (Nat.le_of_ble_eq_true rfl) (fun w0 A hf=>(aC (fun K1 hK1=>(aB (aE aA 1 rfl (aD (hK1 _ (aC (fun K2 hK2=>(aB (aE aA 1 rfl (aN hf rfl (aP rfl rfl iX rfl (right_den _ (by first | assumption | (apply hl; simp)))) ?_))))))))))))
 refine aE aA 2 rfl (aD (hK2 _ (aM ?_)))
 refine⟨_,rfl,?_⟩
 rfl
theorem aIa (l:List ByteArray) (hl:TL l) :Den Tryz.prog 229 [.sl 1 (zO l),.fn 198 []]  (fun r=>∃ z:Int,r=.s (.int .i64 z)∧decide (0≤z)=!(l.all cK)):=by
 obtain ⟨hl1,hl2⟩:=hl
 refine aY Tryz.func229 rfl (Nat.le_of_ble_eq_true rfl) (fun w0 A hf=>(aC (fun K1 hK1=>(aB (aE aA 1 rfl (aD (hK1 _ (aC (fun K2 hK2=>(aC (fun K3 hK3=>(aB (aE aA 3 rfl (aD (hK3 _ (aU ?_))))))))))))))))
 refine bW (ι:=Nat) (fun k=>⟨19,[(0,.sl 1 (zO l)),(1,.fn 198 []),(7,.s (.int .i64 ((zO l).length:Nat))),(8,.s (.int .i64 (k:Nat)))],[]⟩) (fun k=>k≤l.length∧l.all cK=(l.drop k).all cK) (fun k=>l.length - k) 0 ?_ ?_ ?_
 · exact⟨by omega,rfl⟩
 · exact cU rfl
 ·
  rintro k hC
  obtain ⟨h1,h2⟩:=hC
  refine aC (fun K4 hK4=>(aB (aE aA 1 rfl (aD (hK4 _ (aC (fun K5 hK5=>(aO rfl (fun hc1=>?_) (fun hc1=>?_)))))))))
  ·
   simp only[bs,iN,dW,List.length_cons,List.length_nil] at hc1
   refine aR (hK5 _ (aC (fun K6 hK6=>(aU (aC (fun K7 hK7=>(aB (aE aA 2 rfl (aD (hK7 _ (aC (fun K8 hK8=>(aB (aE aA 3 rfl ?_))))))))))))))
   refine aI rfl (bJ rfl rfl aSj cT (by first | assumption | (refine⟨by omega,?_⟩; first | assumption | exact gG (by omega) | exact gG (by simp only[List.length_cons] at *; omega) | exact nT (by omega) | exact pX (by omega) | exact nS (by omega)) | exact⟨by decide,rfl⟩)) ?_
   refine aI rfl (aH0 rfl aQk rfl) ?_
   refine aN hf rfl (aP rfl rfl aMd rfl (aT5 _ (hl2 _ (List.getElem_mem _)))) (aD (hK8 _ (aO rfl (fun hc2=>?_) (fun hc2=>?_))))
   ·
    simp only[bs,iN,dW,List.length_cons,List.length_nil] at hc2
    refine aC (fun K9 hK9=>(aB (aE aA 2 rfl (aD (hK9 _ (aM ?_))))))
    refine⟨_,rfl,?_⟩
    refine⟨_,rfl,?_⟩
    rw[h2,aG1 cK l k (by omega)]
    simp_all
   ·
    simp only[bs,iN,dW,List.length_cons,List.length_nil] at hc2
    refine aR (hK6 _ (aB ?_))
    refine aI rfl (bQ rfl rfl (by omega) (by omega)) ?_
    refine aE aA 1 rfl (aD ?_)
    exact⟨k+1,⟨by omega,by rw[h2,aG1 cK l k (by omega)]; simp_all⟩,by omega,cU rfl⟩
  ·
   simp only[bs,iN,dW,List.length_cons,List.length_nil] at hc1
   refine bI (hK2 _ (aC (fun K10 hK10=>(aB (aE aA 1 rfl (aD (hK10 _ (aM ?_))))))))
   refine⟨_,rfl,?_⟩
   refine⟨_,rfl,?_⟩
   rw[h2,aTn cK l k (by omega)]
   rfl
theorem aCd (l:List ByteArray) (hl:TL l) :Den Tryz.prog 197 [.sl 1 (zO l),.fn 198 []]  (·=.s (.bool (!(l.all cK)))):=by
 refine aY Tryz.func197 rfl (Nat.le_of_ble_eq_true rfl) (fun w0 A hf=>(aC (fun K1 hK1=>(aB (aE aA 1 rfl (aD (hK1 _ (aC (fun K2 hK2=>(aB (aE aA 2 rfl (y_call hf rfl rfl rfl aL0 rfl (aIa _ (by assumption)) ?_))))))))))))
 rintro _ ⟨z,rfl,hz⟩
 refine aE aA 2 rfl (aD (hK2 _ (aM ?_)))
 refine⟨_,rfl,?_⟩
 refine aQ ?_
 rw[← hz]
theorem all_den (l:List ByteArray) (hl:TL l) :Den Tryz.prog 154 [.sl 1 (zO l)]  (·=.s (.bool (l.all cK))):=by
 refine aY Tryz.func154 rfl (Nat.le_of_ble_eq_true rfl) (fun w0 A hf=>(aC (fun K1 hK1=>(aB (aE aA 1 rfl (aD (hK1 _ (aC (fun K2 hK2=>(aB (aE aA 1 rfl (aN hf rfl (aP rfl rfl aMe rfl (aCd _ (by assumption))) (aE aA 2 rfl (aD (hK2 _ ?_)))))))))))))))
 refine aM ?_
 refine⟨_,rfl,?_⟩
 refine aQ ?_
 simp
theorem or_den (l:List Int) (hl:l.length≤9223372036854775807) :Den Tryz.prog 176 [.sl 1 (bH l)]  (·=.s (.int .i64 (orI l))):=by
 refine aY Tryz.func176 rfl (Nat.le_of_ble_eq_true rfl) (fun w0 A hf=>(aC (fun K1 hK1=>(aB (aE aA 1 rfl (aD (hK1 _ (aC (fun K2 hK2=>(aB (aE aA 1 rfl (aD (hK2 _ (aC (fun K3 hK3=>(aC (fun K4 hK4=>?_)))))))))))))))))
 refine aB (aE aA 3 rfl (aD (hK4 _ (aU (bW (ι:=Nat) (fun k=>⟨18,[(3,.s (.int .i64 0)),(6,.sl 1 (bH l)),(7,.s (.int .i64 ((bH l).length:Nat))),(8,.s (.int .i64 (k:Nat)))],[]⟩) (fun k=>k≤l.length∧orI l=orI (l.drop k)) (fun k=>l.length - k) 0 ?_ ?_ ?_)))))
 · exact⟨by omega,rfl⟩
 · exact cU rfl
 ·
  rintro k hC
  obtain ⟨h1,h2⟩:=hC
  refine aC (fun K5 hK5=>(aB (aE aA 1 rfl (aD (hK5 _ (aC (fun K6 hK6=>(aO rfl (fun hc1=>?_) (fun hc1=>?_)))))))))
  ·
   simp only[bs,iN,dW,List.length_cons,List.length_nil] at hc1
   refine aR (hK6 _ (aC (fun K7 hK7=>(aU (aC (fun K8 hK8=>(aB ?_)))))))
   refine aI rfl (bJ rfl rfl aSk cP (by first | assumption | (refine⟨by omega,?_⟩; first | assumption | exact gG (by omega) | exact gG (by simp only[List.length_cons] at *; omega) | exact nT (by omega) | exact pX (by omega) | exact nS (by omega)) | exact⟨by decide,rfl⟩)) ?_
   refine aI rfl (aH0 rfl aQl rfl) ?_
   refine aE aA 1 rfl (aD (hK8 _ (aC (fun K9 hK9=>(aB (aE aA 3 rfl (aD (hK9 _ (aO rfl (fun hc2=>?_) (fun hc2=>?_))))))))))
   ·
    simp only[bs,iN,dW,List.length_cons,List.length_nil] at hc2
    refine aC (fun K10 hK10=>(aB (aE aA 2 rfl (aD (hK10 _ (aM ?_))))))
    refine⟨_,rfl,?_⟩
    refine eP ?_
    rw[h2,aKb l k (by omega),if_pos (by assumption)]
   ·
    simp only[bs,iN,dW,List.length_cons,List.length_nil] at hc2
    refine aR (hK7 _ (aB ?_))
    refine aI rfl (bQ rfl rfl (by omega) (by omega)) ?_
    refine aE aA 1 rfl (aD ?_)
    exact⟨k+1,⟨by omega,by rw[h2,aKb l k (by omega),if_neg (by simp_all)]⟩,by omega,cU rfl⟩
  ·
   simp only[bs,iN,dW,List.length_cons,List.length_nil] at hc1
   refine bI (hK3 _ (aC (fun K11 hK11=>(aB (aE aA 2 rfl (aD (hK11 _ (aM ?_))))))))
   refine⟨_,rfl,?_⟩
   refine eP ?_
   rw[h2,orI_end l k (by omega)]
end Go.Proofs.YtijnkglkchhomaaGreat.Nm
set_option linter.unusedVariables false
set_option linter.unusedSimpArgs false
namespace Go.Abs
open Go Go.RowKit
variable {P:Program} {n:Nat} {sl:List (Nat×AV)} {m:Mem} {d ty:Nat} {ps:String} {af:Array Edge} {gd:Option (Nat×Bool)}
theorem oM {a b:TypeId} {x:Operand} {k k':IntKind} {z z':Int} {D:TypeDesc} (hx:ev sl x=some (.s (.int k z))) (ha:P.underlying a=some D) (hb:P.underlying b=some (.int k')) (hz:k'.wrap z=z') :
    cJ P ⟨some d,.convert a b x,ty,ps,af,gd⟩ ⟨n,sl,m⟩ (.s (.int k' z')):=by
  intro act w p hs _
  refine⟨.int k' z',?_,.s _⟩
  have e1:=oP hs (cQ (n:=n) (m:=m) hx)
  simp [execOp,e1,Go.convert,run_underlying ha,run_underlying hb,Conv.intToInt,hz]
theorem zX {t yt:TypeId} {x:Operand} {k:IntKind} {z z':Int} (hx:ev sl x=some (.s (.int k z))) (hz:z.fdiv 2=z') (h64:1<k.bits):cJ P ⟨some d,.binOp .shr t x (.const (.int .u64 1)) yt,ty,ps,af,gd⟩ ⟨n,sl,m⟩ (.s (.int k z')):=by
  intro act w p hs _
  refine⟨.int k z',?_,.s _⟩
  have e1:=oP hs (cQ (n:=n) (m:=m) hx)
  have e2:act.eval (.const (.int .u64 1))=.int .u64 1:=rfl
  have e3:min (1:Int).toNat k.bits=1:=by show min 1 k.bits=1; omega
  have e4:(binOp .shr t (.int k z) (.int .u64 1)).run P w=.ok (.int k z') w:=by
    show (Op.shift .shr k z .u64 1).run P w=_
    unfold Op.shift
    rw[if_neg (by omega)]
    simp only[e3]
    show Result.ok (Value.int k (z.fdiv (2 ^ 1))) w=_
    rw[show (2:Int) ^ 1=2 from rfl,hz]
  simp only[execOp,e1,e2]
  rw[Sem.run_bind]
  have e5:(eqGuard .shr t x (.const (.int .u64 1)) (.int k z) (.int .u64 1)).run P w=.ok () w:=by simp [eqGuard]
  simp [e5,e4]
theorem aAf {a b:Int} (ha:0≤a) (hb:a≤9223372036854775807) (e:b=a / 2):IntKind.u64.wrap a=a∧a.fdiv 2=b∧IntKind.i64.wrap b=b:=by
  subst e
  refine⟨?_,?_,?_⟩
  · unfold IntKind.wrap; simp [IntKind.signed,IntKind.bits]; omega
  · rw[Int.fdiv_eq_ediv_of_nonneg a (by omega)]
  · exact wrap_i64 (by omega) (by omega)
end Go.Abs
namespace Go.Abs
open Go Go.RowKit
variable {P:Program} {n:Nat} {sl:List (Nat×AV)} {m:Mem} {d ty:Nat} {ps:String} {af:Array Edge} {gd:Option (Nat×Bool)}
theorem aP6 {t yt:TypeId} {x y:Operand} {a b r:Int} (hx:ev sl x=some (.s (.int .i64 a))) (hy:ev sl y=some (.s (.int .i64 b))) (hr:a*b=r) (h1:-9223372036854775808≤r) (h2:r≤9223372036854775807):cJ P ⟨some d,.binOp .mul t x y yt,ty,ps,af,gd⟩ ⟨n,sl,m⟩ (.s (.int .i64 r)):=by
  subst hr
  exact eO hx hy (by simp [oQ,wJ,wrap_i64 h1 h2])
end Go.Abs
set_option linter.unusedVariables false
set_option linter.unusedSimpArgs false
namespace Go.Abs
variable {α β:Type}
structure Tri (c:α→α→Int):Prop where
  rng:∀ x y,c x y=-1∨c x y=0∨c x y=1
  swap:∀ x y,c y x=- c x y
  tr:∀ x y z,c x y≤0→c y z≤0→c x z≤0
theorem Tri.self {c:α→α→Int} (h:Tri c) (x:α):c x x=0:=by have:=h.swap x x; omega
theorem Tri.lt_tr {c:α→α→Int} (h:Tri c) {x y z:α} (h1:c x y<0) (h2:c y z<0):c x z<0:=by
  have h3:=h.tr x y z (by omega) (by omega)
  rcases Int.lt_or_eq_of_le h3 with e | e
  · exact e
  · exfalso
    have:=h.tr y z x (by omega) (by have:=h.swap x z; omega)
    have:=h.swap x y
    omega
theorem Tri.lt_le {c:α→α→Int} (h:Tri c) {x y z:α} (h1:c x y<0) (h2:c y z≤0):c x z<0:=by
  have h3:=h.tr x y z (by omega) h2
  rcases Int.lt_or_eq_of_le h3 with e | e
  · exact e
  · exfalso
    have:=h.tr y z x h2 (by have:=h.swap x z; omega)
    have:=h.swap x y
    omega
theorem Tri.le_lt {c:α→α→Int} (h:Tri c) {x y z:α} (h1:c x y≤0) (h2:c y z<0):c x z<0:=by
  have h3:=h.tr x y z h1 (by omega)
  rcases Int.lt_or_eq_of_le h3 with e | e
  · exact e
  · exfalso
    have:=h.tr z x y (by have:=h.swap x z; omega) h1
    have:=h.swap y z
    omega
theorem Tri.comap {c:α→α→Int} (h:Tri c) (f:β→α):Tri (fun x y=>c (f x) (f y)) :=
  ⟨fun _ _=>h.rng _ _,fun _ _=>h.swap _ _,fun _ _ _=>h.tr _ _ _⟩
def uS (c d:α→α→Int) (x y:α):Int:=if c x y≠0 then c x y else d x y
theorem Tri.lex {c d:α→α→Int} (hc:Tri c) (hd:Tri d):Tri (uS c d):=by
  refine⟨fun x y=>?_,fun x y=>?_,fun x y z=>?_⟩
  · unfold uS; split
    · exact hc.rng x y
    · exact hd.rng x y
  · have h1:=hc.swap x y; have h2:=hd.swap x y
    unfold uS
    split <;> split <;> omega
  · intro h1 h2
    unfold uS at *
    have:=hc.tr x y z
    have:=@Tri.lt_le _ _ hc x y z
    have:=@Tri.le_lt _ _ hc x y z
    have:=hd.tr x y z
    split at h1 <;> split at h2 <;> split <;> omega
theorem sB {c d:α→α→Int} {x y:α}:uS c d x y=0↔c x y=0∧d x y=0:=by
  unfold uS; split <;> omega
def mK (ok:α→Bool) (nx:α→α→Bool):Option α→List α→Bool
  | _,[]=>true
  | none,x::r=>ok x&&mK ok nx (some x) r
  | some y,x::r=>(ok x&&nx y x)&&mK ok nx (some x) r
def gU (l:List α) (k:Nat):Option α:=if k=0 then none else l[k - 1]?
theorem aDm (ok:α→Bool) (nx:α→α→Bool) (l:List α) (k:Nat) (h:k<l.length) (h0:0<k) :
    mK ok nx (gU l k) (l.drop k)=((ok l[k]&&nx (l[k - 1]'(by omega)) l[k])&&mK ok nx (gU l (k+1)) (l.drop (k+1))):=by
  rw[List.drop_eq_getElem_cons h,gU,if_neg (by omega),gU,if_neg (by omega),List.getElem?_eq_getElem (by omega),show k+1 - 1=k from by omega,List.getElem?_eq_getElem h]
  rfl
theorem aGo (ok:α→Bool) (nx:α→α→Bool) (l:List α) (h:0<l.length) :
    mK ok nx (gU l 0) (l.drop 0)=(ok l[0]&&mK ok nx (gU l 1) (l.drop 1)):=by
  rw[List.drop_eq_getElem_cons h,gU,if_pos rfl,gU,if_neg (by omega),List.getElem?_eq_getElem (by omega)]
  rfl
theorem ris_end (ok:α→Bool) (nx:α→α→Bool) (l:List α) (k:Nat) (h:l.length≤k):mK ok nx (gU l k) (l.drop k)=true:=by
  rw[List.drop_eq_nil_of_le h]; cases gU l k <;> rfl
theorem eT {ok:α→Bool} {nx:α→α→Bool} {l:List α} {k:Nat} {b:Bool} (h:b=mK ok nx (gU l k) (l.drop k)) (hk:k<l.length) (ho:ok l[k]=false):b=false:=by
  rw[h]
  by_cases h0:k=0
  · subst h0; rw[aGo ok nx l hk,ho]; rfl
  · rw[aDm ok nx l k hk (by omega),ho]; rfl
theorem fF {ok:α→Bool} {nx:α→α→Bool} {l:List α} {k:Nat} {b:Bool} (h:b=mK ok nx (gU l k) (l.drop k)) (hk:k<l.length) (h0:0<k) (hn:nx (l[k - 1]'(by omega)) l[k]=false):b=false:=by
  rw[h,aDm ok nx l k hk h0,hn,Bool.and_false,Bool.false_and]
theorem fL {ok:α→Bool} {nx:α→α→Bool} {l:List α} {k:Nat} {b:Bool} (h:b=mK ok nx (gU l k) (l.drop k)) (hk:k<l.length) (ho:ok l[k]=true) (hn:∀ h0:0<k,nx (l[k - 1]'(by omega)) l[k]=true):b=mK ok nx (gU l (k+1)) (l.drop (k+1)):=by
  rw[h]
  by_cases h0:k=0
  · subst h0; rw[aGo ok nx l hk,ho]; rfl
  · rw[aDm ok nx l k hk (by omega),ho,hn (by omega)]; rfl
theorem oA {ok:α→Bool} {nx:α→α→Bool} {l:List α} {k:Nat} {b:Bool} (h:b=mK ok nx (gU l k) (l.drop k)) (hk:l.length≤k):b=true:=by rw[h,ris_end ok nx l k hk]
theorem rW {ok:α→Bool} {nx:α→α→Bool} (R:α→α→Prop) (h1:∀ x y,nx x y=true↔R x y) (h2:∀ x y z,ok y=true→R x y→R y z→R x z) :
    ∀ (l:List α) (p:Option α),mK ok nx p l=true↔((∀ x∈l,ok x=true)∧l.Pairwise R∧∀ y,p=some y→∀ x∈l,R y x)
  | [],p=>by cases p <;> simp [mK]
  | x::r,none=>by
    simp only[mK,Bool.and_eq_true]
    rw[rW R h1 h2 r (some x)]
    simp only[List.mem_cons,forall_eq_or_imp,List.pairwise_cons,Option.some.injEq,forall_eq',reduceCtorEq,false_implies,implies_true,and_true]
    constructor
    · rintro ⟨a,b,c,d⟩; exact⟨⟨a,b⟩,d,c⟩
    · rintro ⟨⟨a,b⟩,d,c⟩; exact⟨a,b,c,d⟩
  | x::r,some y=>by
    simp only[mK,Bool.and_eq_true]
    rw[rW R h1 h2 r (some x),h1]
    simp only[List.mem_cons,forall_eq_or_imp,List.pairwise_cons,Option.some.injEq,forall_eq']
    constructor
    · rintro ⟨⟨a,e⟩,b,c,d⟩; exact⟨⟨a,b⟩,⟨d,c⟩,e,fun z hz=>h2 y x z a e (d z hz)⟩
    · rintro ⟨⟨a,b⟩,⟨d,c⟩,e,f⟩; exact⟨⟨a,e⟩,b,c,d⟩
end Go.Abs
namespace Go.Abs
variable {α:Type} {enc:α→List AV}
theorem mM {l:List α} {k:Nat} (h:k≤l.length):((l.map enc).take ((k:Nat):Int).toNat).drop 0=(l.take k).map enc:=by
  simp [List.map_take]
theorem iZ {l:List α} {k:Nat} (h:k≤l.length):((l.map enc).take (l.map enc).length).drop ((k:Nat):Int).toNat=(l.drop k).map enc:=by
  rw[Int.toNat_natCast,List.map_drop,List.take_of_length_le (Nat.le_refl _)]
end Go.Abs
set_option linter.unusedVariables false
set_option linter.unusedSimpArgs false
namespace Go.Abs
variable {α:Type} {enc:α→List AV} {c:α→α→Int}
-- cells of a slice,told by what stands there
theorem dU {l:List α} {k i z:Nat} {x:α} (hi:i=z) (h:l[z]?=some x) (hc:(enc x).length=k):((AM.buf k (l.map enc)).at k i 0).take k=enc x:=by
  obtain ⟨hz,rfl⟩:=List.getElem?_eq_some_iff.1 h
  exact oD hi hz hc
theorem eL {l:List α} {k i z:Nat} {x:α} (hi:i=z) (h:l[z]?=some x) (hc:(enc x).length=k):Nat.ble k ((AM.buf k (l.map enc)).at k i 0).length=true:=by
  obtain ⟨hz,rfl⟩:=List.getElem?_eq_some_iff.1 h
  exact qZ hi hz hc
theorem eY {l:List α} {k i z:Nat} {v:α} {rs:List AV} (hi:i=z) (h:z<l.length) (hr:rs=enc v) (hv:(enc v).length=k) (hl:(enc l[z]).length=k):(AM.buf k (l.map enc)).store k i 0 rs=some (.buf k ((l.set z v).map enc)):=by
  subst hr
  exact hU hi h (by simp [splice,hv,hl]) (by omega)
def Srt (c:α→α→Int) (l:List α):Prop:=l.Pairwise fun x y=>c x y≤0
theorem at0 {p q:List α} {x:α}:(p++x::q)[p.length]?=some x:=by simp
theorem atQ {l p q:List α} {x:α} {z:Nat} (h:l=p++x::q) (hz:z=p.length):l[z]?=some x:=by subst h; subst hz; exact at0
theorem vU {l p q:List α} {x y:α} {i j:Nat} (h:l=p++x::y::q) (hi:i=p.length+1) (hj:j=p.length):(l.set i x).set j y=p++y::x::q:=by
  subst h; subst hi; subst hj; simp
theorem aPv {l p q:List α} {x y:α} {i j:Nat} (h:l=p++x::y::q) (hi:i=p.length) (hj:j=p.length+1):(l.set i y).set j x=p++y::x::q:=by
  subst h; subst hi; subst hj; simp
theorem Srt.append {a b:List α} (ha:Srt c a) (hb:Srt c b) (h:∀ x∈a,∀ y∈b,c x y≤0):Srt c (a++b):=List.pairwise_append.2 ⟨ha,hb,h⟩
theorem Srt.left {a b:List α} (h:Srt c (a++b)):Srt c a:=(List.pairwise_append.1 h).1
theorem Srt.right {a b:List α} (h:Srt c (a++b)):Srt c b:=(List.pairwise_append.1 h).2.1
theorem aEe (hc:Tri c) {u v:List α} {e:α} (h:Srt c (u++v)) (hv:∀ y∈v,c e y≤0) (hu:∀ z,u.getLast?=some z→c z e≤0):Srt c (u++e::v):=by
  obtain ⟨h1,h2,h3⟩:=List.pairwise_append.1 h
  refine Srt.append h1 (List.pairwise_cons.2 ⟨hv,h2⟩) fun x hx y hy=>?_
  rcases List.mem_cons.1 hy with rfl | hy
  · rcases List.eq_nil_or_concat u with rfl | ⟨u',z,rfl⟩
    · simp at hx
    · have hz:=hu z (by simp)
      rw[List.concat_eq_append] at hx h1
      rcases List.mem_append.1 hx with hx | hx
      · exact hc.tr x z y ((List.pairwise_append.1 h1).2.2 x hx z (by simp)) hz
      · simp only[List.mem_singleton] at hx; subst hx; exact hz
  · exact h3 x hx y hy
theorem aSr {l:List α} (h:Srt c l) (hc:Tri c) {i j:Nat} (hi:i<l.length) (hj:j<l.length) (hij:i≤j):c l[i] l[j]≤0:=by
  rcases Nat.lt_or_eq_of_le hij with e | rfl
  · exact List.pairwise_iff_getElem.1 h i j hi hj e
  · have:=hc.self l[i]; omega
theorem yA {l:List α} (h:Srt c l) (hc:Tri c) {k:Nat} (hk:k<l.length):(∀ x∈l.take (k+1),c x l[k]≤0)∧∀ x∈l.drop k,c l[k] x≤0:=by
  refine⟨fun x hx=>?_,fun x hx=>?_⟩
  · obtain ⟨i,hi,rfl⟩:=List.mem_iff_getElem.1 hx
    simp only[List.length_take] at hi
    rw[List.getElem_take]
    exact aSr h hc _ hk (by omega)
  · obtain ⟨i,hi,rfl⟩:=List.mem_iff_getElem.1 hx
    simp only[List.length_drop] at hi
    rw[List.getElem_drop]
    exact aSr h hc hk _ (by omega)
theorem put_srt (hc:Tri c) {s:List α} {x:α} {i:Nat} (h:Srt c s) (hi:i≤s.length) (h1:∀ h0:0<i,c (s[i - 1]'(by omega)) x≤0) (h2:∀ h0:i<s.length,c x s[i]≤0):Srt c (s.take i++x::s.drop i):=by
  refine aEe hc (by rw[List.take_append_drop]; exact h) (fun y hy=>?_) (fun z hz=>?_)
  · by_cases h0:i<s.length
    · exact hc.tr x s[i] y (h2 h0) ((yA h hc h0).2 y hy)
    · rw[List.drop_eq_nil_of_le (by omega)] at hy; simp at hy
  · rcases Nat.eq_zero_or_pos i with rfl | h0
    · simp at hz
    · have:(s.take i).getLast?=some (s[i - 1]'(by omega)):=by
        rw[List.getLast?_eq_getElem?,List.length_take,List.getElem?_take,if_pos (by omega),Nat.min_eq_left hi,List.getElem?_eq_getElem]
      rw[this] at hz; cases hz
      exact h1 h0
theorem sym_sep (hc:Tri c) {s1 s2:List α} {S K:Nat} (h1:Srt c s1) (h2:Srt c s2) (hS:S≤s1.length) (hK:K≤s2.length)
    (hA:∀ (h0:0<S) (h3:K<s2.length),c (s1[S - 1]'(by omega)) s2[K]≤0) (hB:∀ (h0:0<K) (h3:S<s1.length),c (s2[K - 1]'(by omega)) s1[S]≤0) :
    ∀ x∈s1.take S++s2.take K,∀ y∈s1.drop S++s2.drop K,c x y≤0:=by
  have e1:Srt c (s1.take S++s1.drop S):=by rw[List.take_append_drop]; exact h1
  have e2:Srt c (s2.take K++s2.drop K):=by rw[List.take_append_drop]; exact h2
  intro x hx y hy
  rcases List.mem_append.1 hx with hx | hx <;> rcases List.mem_append.1 hy with hy | hy
  · exact(List.pairwise_append.1 e1).2.2 x hx y hy
  · rcases Nat.eq_zero_or_pos S with rfl | h0
    · simp at hx
    · by_cases h3:K<s2.length
      · have q1:=(yA h1 hc (show S - 1<s1.length by omega)).1 x (by rw[show S - 1+1=S by omega]; exact hx)
        exact hc.tr _ _ _ (hc.tr _ _ _ q1 (hA h0 h3)) ((yA h2 hc h3).2 y hy)
      · rw[List.drop_eq_nil_of_le (by omega)] at hy; simp at hy
  · rcases Nat.eq_zero_or_pos K with rfl | h0
    · simp at hx
    · by_cases h3:S<s1.length
      · have q1:=(yA h2 hc (show K - 1<s2.length by omega)).1 x (by rw[show K - 1+1=K by omega]; exact hx)
        exact hc.tr _ _ _ (hc.tr _ _ _ q1 (hB h0 h3)) ((yA h1 hc h3).2 y hy)
      · rw[List.drop_eq_nil_of_le (by omega)] at hy; simp at hy
  · exact(List.pairwise_append.1 e2).2.2 x hx y hy
theorem Srt.take {l:List α} (h:Srt c l) (k:Nat):Srt c (l.take k):=Srt.left (b:=l.drop k) (by rw[List.take_append_drop]; exact h)
theorem Srt.drop {l:List α} (h:Srt c l) (k:Nat):Srt c (l.drop k):=Srt.right (a:=l.take k) (by rw[List.take_append_drop]; exact h)
theorem aDe {a b a' b':List α} (ha:a'.Perm a) (hb:b'.Perm b) (h:∀ x∈a,∀ y∈b,c x y≤0):∀ x∈a',∀ y∈b',c x y≤0 :=
  fun x hx y hy=>h x (ha.mem_iff.1 hx) y (hb.mem_iff.1 hy)
theorem uV {s1 s2 l r:List α} {S K:Nat} (hl:l.Perm (s1.take S++s2.take K)) (hr:r.Perm (s1.drop S++s2.drop K)):(l++r).Perm (s1++s2):=by
  refine(hl.append hr).trans ?_
  have e:(s1++s2).Perm ((s1.take S++s1.drop S)++(s2.take K++s2.drop K)):=by rw[List.take_append_drop,List.take_append_drop]
  refine List.Perm.trans ?_ e.symm
  rw[List.append_assoc,List.append_assoc]
  refine List.Perm.append_left _ ?_
  rw[← List.append_assoc,← List.append_assoc]
  exact List.Perm.append_right _ List.perm_append_comm
inductive Fu (c:α→α→Int) (k:Nat):List α→Prop
  | nil:Fu c k []
  | cons {d s:List α} (h:Fu c k d) (hs:Srt c s) (hl:s.length=k):Fu c k (d++s)
inductive Ch (c:α→α→Int) (k:Nat):List α→Prop
  | last {s:List α} (hs:Srt c s) (hl:s.length≤k):Ch c k s
  | cons {s r:List α} (hs:Srt c s) (hl:s.length=k) (h:Ch c k r):Ch c k (s++r)
theorem Fu.ch {k:Nat} {d:List α} (h:Fu c k d):∀ {r:List α},Ch c k r→Ch c k (d++r):=by
  induction h with
  | nil=>intro r hr; exact hr
  | cons h hs hl ih=>intro r hr; rw[List.append_assoc]; exact ih (.cons hs hl hr)
theorem Ch.split {k:Nat} {l:List α} (h:Ch c k l) (hl:k<l.length):∃ s r,l=s++r∧Srt c s∧s.length=k∧Ch c k r:=by
  cases h with
  | last hs h1=>omega
  | cons hs h1 h2=>exact⟨_,_,rfl,hs,h1,h2⟩
theorem Ch.short {k:Nat} {l:List α} (h:Ch c k l) (hl:l.length≤k):Srt c l:=by
  cases h with
  | last hs h1=>exact hs
  | @cons s r hs h1 h2 =>
    have:r=[]:=by
      rw[List.length_append] at hl
      exact List.eq_nil_of_length_eq_zero (by omega)
    rw[this,List.append_nil]; exact hs
theorem Ch.two {k:Nat} {l:List α} (h:Ch c k l) (hl:k<l.length):∃ s t r,l=s++(t++r)∧Srt c s∧s.length=k∧Srt c t∧0<t.length∧((t.length=k∧Ch c k r)∨(t.length≤k∧r=[])):=by
  obtain ⟨s,r,rfl,hs,h1,h2⟩:=h.split hl
  rw[List.length_append] at hl
  cases h2 with
  | last ht h3=>exact⟨s,r,[],by simp,hs,h1,ht,by omega,.inr ⟨h3,rfl⟩⟩
  | @cons t r' ht h3 h4 =>
    rcases Nat.eq_zero_or_pos k with rfl | h0
    · have:t=[]:=List.eq_nil_of_length_eq_zero h3
      subst this
      simp only[List.nil_append] at hl ⊢
      exact⟨s,r',[],by simp,hs,h1,(h4.short (by
        exfalso
        revert hl
        have:∀ l:List α,Ch c 0 l→l.length=0:=by
          intro l hl
          induction hl with
          | last hs hl=>omega
          | cons hs hl h ih=>rw[List.length_append,hl,ih]
        have:=this r' h4
        omega)),by omega,.inr ⟨by
        have:∀ l:List α,Ch c 0 l→l.length=0:=by
          intro l hl
          induction hl with
          | last hs hl=>omega
          | cons hs hl h ih=>rw[List.length_append,hl,ih]
        rw[this r' h4]; exact Nat.zero_le _,rfl⟩⟩
    · exact⟨s,t,r',rfl,hs,h1,ht,by omega,.inl ⟨h3,h4⟩⟩
end Go.Abs
namespace Go.Abs
variable {α:Type} {enc:α→List AV} {c:α→α→Int}
def swr (A u B v C:List α) (i:Nat):List α:=A++((v.take i++u.drop i)++(B++((u.take i++v.drop i)++C)))
theorem swr_len {A u B v C:List α} {i:Nat} (h:v.length=u.length):(swr A u B v C i).length=A.length+u.length+B.length+v.length+C.length:=by
  simp only[swr,List.length_append,List.length_take,List.length_drop]; omega
theorem zN {A u B v C:List α} {i:Nat} (h:v.length=u.length) (hi:i<u.length) :
    swr A u B v C i=(A++v.take i)++u[i]::((u.drop (i+1)++B++u.take i)++(v[i]'(by omega))::(v.drop (i+1)++C)):=by
  rw[swr,List.drop_eq_getElem_cons hi,List.drop_eq_getElem_cons (show i<v.length by omega)]; simp only[List.append_assoc,List.cons_append]
theorem aCh {A u B v C:List α} {i:Nat} (h:v.length=u.length) (hi:i<u.length):(swr A u B v C i)[A.length+i]?=some u[i]:=by
  rw[zN h hi]
  exact atQ rfl (by simp; omega)
theorem aCg {A u B v C:List α} {i:Nat} (h:v.length=u.length) (hi:i<u.length):(swr A u B v C i)[A.length+u.length+B.length+i]?=some (v[i]'(by omega)):=by
  rw[zN h hi]
  exact atQ (p:=(A++v.take i)++u[i]::(u.drop (i+1)++B++u.take i)) (q:=v.drop (i+1)++C) (by simp) (by simp; omega)
theorem aSw {p q:List α} {x y:α} {i:Nat} (hi:i=p.length):(p++x::q).set i y=p++y::q:=by subst hi; simp
theorem aJj {A u B v C:List α} {i:Nat} (h:v.length=u.length) (hi:i<u.length):((swr A u B v C i).set (A.length+i) (v[i]'(by omega))).set (A.length+u.length+B.length+i) u[i]=swr A u B v C (i+1):=by
  rw[zN h hi,aSw (by simp; omega)]
  rw[show (A++v.take i)++(v[i]'(by omega))::((u.drop (i+1)++B++u.take i)++(v[i]'(by omega))::(v.drop (i+1)++C))=((A++v.take i)++(v[i]'(by omega))::(u.drop (i+1)++B++u.take i))++(v[i]'(by omega))::(v.drop (i+1)++C) from by simp]
  rw[aSw (by simp; omega),swr,← List.take_append_getElem hi,← List.take_append_getElem (show i<v.length by omega)]
  simp only[List.append_assoc,List.cons_append,List.nil_append]
theorem srt_one {l:List α} (h:l.length≤1):Srt c l:=by
  match l,h with
  | [],_=>exact List.Pairwise.nil
  | [x],_=>exact List.pairwise_singleton _ _
theorem last_of {u:List α} (h:0<u.length):∃ u' z,u=u'++[z]:=by
  rcases List.eq_nil_or_concat u with rfl | ⟨u',z,rfl⟩
  · simp at h
  · exact⟨u',z,by simp⟩
theorem aT {x y:Int} (h:x=y):(some (AV.s (.int .i64 x)):Option AV)=some (AV.s (.int .i64 y)):=by rw[h]
end Go.Abs
namespace Go.Abs
variable {α:Type} {enc:α→List AV} {c:α→α→Int}
theorem aKo {u v s3 s1 s0:List α} {e:α} (huv:u++v=s1) (h:(s1++e::s3).Perm s0):((u++e::v)++s3).Perm s0:=by
  refine List.Perm.trans ?_ h
  subst huv
  rw[List.append_assoc,List.append_assoc]
  exact List.Perm.append_left u List.perm_middle.symm
theorem atM {p s1 s2 q:List α} {h:Nat} (hh:h<s2.length):(p++(s1++(s2++q)))[p.length+s1.length+h]?=some s2[h]:=by
  rw[List.getElem?_append_right (by omega),List.getElem?_append_right (by omega),List.getElem?_append_left (by omega),List.getElem?_eq_getElem (by omega)]
  congr 2; omega
theorem atL {p s1 r:List α} {h:Nat} (hh:h<s1.length):(p++(s1++r))[p.length+h]?=some s1[h]:=by
  rw[List.getElem?_append_right (by omega),List.getElem?_append_left (by omega),List.getElem?_eq_getElem (by omega)]
  congr 2; omega
theorem aJi {p s1 s2 q:List α} {S K:Nat} (h:s1.length≤S∨K=0):p++(s1++(s2++q))=p++((s1.take S++s2.take K)++((s1.drop S++s2.drop K)++q)):=by
  rcases h with h | rfl
  · rw[List.take_of_length_le h,List.drop_eq_nil_of_le h,List.nil_append,List.append_assoc,← List.append_assoc (s2.take K),List.take_append_drop]
  · rw[List.take_zero,List.drop_zero,List.append_nil,List.append_assoc,← List.append_assoc (s1.take S),List.take_append_drop]
theorem aSq {p s1 s2 q:List α} (S K:Nat):p++(s1++(s2++q))=(p++s1.take S)++(s1.drop S++(s2.take K++(s2.drop K++q))):=by
  rw[List.append_assoc,← List.append_assoc (s1.take S),List.take_append_drop,← List.append_assoc (s2.take K),List.take_append_drop]
theorem aJk {s1 s2:List α} {S K:Nat} (h1:Srt c s1) (h2:Srt c s2) (h:S=0∨K=0):Srt c (s1.take S++s2.take K):=by
  rcases h with rfl | rfl
  · rw[List.take_zero,List.nil_append]; exact h2.take K
  · rw[List.take_zero,List.append_nil]; exact h1.take S
theorem aGk {s1 s2:List α} {S K:Nat} (h1:Srt c s1) (h2:Srt c s2) (h:s1.length≤S∨s2.length≤K):Srt c (s1.drop S++s2.drop K):=by
  rcases h with h | h
  · rw[List.drop_eq_nil_of_le h,List.nil_append]; exact h2.drop K
  · rw[List.drop_eq_nil_of_le h,List.append_nil]; exact h1.drop S
theorem put_perm {s:List α} {x:α} {i:Nat}:(s.take i++x::s.drop i).Perm (x::s):=by
  refine List.perm_middle.trans ?_
  rw[List.take_append_drop]
theorem aJ4 (hc:Tri c) {s:List α} {x:α} {i:Nat} (h:Srt c s) (hi:i≤s.length) (h1:∀ z,s[i - 1]?=some z→0<i→c z x≤0) (h2:∀ z,s[i]?=some z→c x z≤0):Srt c (s.take i++x::s.drop i) :=
  put_srt hc h hi (fun h0=>h1 _ (List.getElem?_eq_getElem (by omega)) h0) (fun h0=>h2 _ (List.getElem?_eq_getElem h0))
theorem Ch.pair {k:Nat} {l:List α} (h:Ch c k l) (h0:0<k) (hl:2*k≤l.length):∃ s t r,l=s++(t++r)∧Srt c s∧s.length=k∧Srt c t∧t.length=k∧Ch c k r:=by
  obtain ⟨s,t,r,rfl,h1,h2,h3,h4,h5⟩:=h.two (by omega)
  simp only[List.length_append] at hl
  rcases h5 with ⟨h5,h6⟩ | ⟨h5,rfl⟩
  · exact⟨s,t,r,rfl,h1,h2,h3,h5,h6⟩
  · simp only[List.length_nil] at hl
    exact⟨s,t,[],rfl,h1,h2,h3,by omega,.last List.Pairwise.nil (by simp)⟩
theorem Ch.rest {k:Nat} {l:List α} (h:Ch c k l) (hl:k<l.length) (hl2:l.length<2*k):∃ s t,l=s++t∧Srt c s∧s.length=k∧Srt c t∧0<t.length:=by
  obtain ⟨s,t,r,rfl,h1,h2,h3,h4,h5⟩:=h.two hl
  simp only[List.length_append] at hl2
  rcases h5 with ⟨h5,h6⟩ | ⟨h5,rfl⟩
  · omega
  · exact⟨s,t,by simp,h1,h2,h3,h4⟩
end Go.Abs
namespace Go.Abs
abbrev Sp:=Int×Int
def aKw (l:List Sp) (t:Int):Bool:=l.any fun s=>decide (s.1≤t)&&decide (t<s.2)
theorem aKv (a b:List Sp) (t:Int):aKw (a++b) t=(aKw a t||aKw b t):=by simp [aKw]
theorem aRe (s:Sp) (l:List Sp) (t:Int):aKw (s::l) t=((decide (s.1≤t)&&decide (t<s.2))||aKw l t):=rfl
theorem aKu (t:Int):aKw [] t=false:=rfl
end Go.Abs
set_option linter.unusedVariables false
namespace Go.Abs
open Go
def spC (s:Sp):List AV:=[.s (.int .i64 s.1),.s (.int .i64 s.2)]
def kU (a b:Int):Int:=if a<b then -1 else if b<a then 1 else 0
section
variable {P:Program}
theorem rB {t:TypeId} {k:IntKind} {a b:Int} (h:a=b):oQ P .eql t (.int k a) (.int k b)=some (.bool true):=by
  subst h; simp [oQ,wJ]
end
end Go.Abs
set_option linter.unusedSimpArgs false
namespace Go.Abs
end Go.Abs
set_option linter.unusedVariables false
set_option linter.unusedSimpArgs false
namespace Go.Abs
open Go
end Go.Abs
