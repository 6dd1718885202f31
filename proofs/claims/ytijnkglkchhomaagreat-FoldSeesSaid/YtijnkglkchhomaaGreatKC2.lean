import Derived.WalkKit
import Derived.WalkSpells
import Derived.WalkLawsBesides
import Derived.Deep.LoopGhost
import Derived.ChangeKeysEq
import Derived.Still
import Derived.Lib.AppendZeros
import Derived.Laws.StructEq
import Derived.OpenShut
import Derived.Scope
import Derived.Shelf.SlSortCmp.Kit1
import Derived.Shelf.SlSortCmp.InsertionK
import Derived.Lib.SlicesCompact
import Derived.ProofKit
import Derived.ChangeSame
import Derived.Carry
import Derived.SliceStrings
import Derived.ChangeMaps5
import Derived.Deep.Slices
import Derived.Test.YtijnkglkchhomaaGreatRows
import Derived.Shelf.Abstract
import Derived.Deep.RegionLaw
import Derived.Lib.Walk
import Derived.Lib.Overlaps
import Derived.Lib.AppendZerosOnto
import Derived.Laws.CopyRow
import Derived.Shelf.SlSortCmp.WholeK
import Derived.Shelf.SlSortCmp.Whole1
import Derived.Shelf.SlSortCmp.NoneTotal
import Derived.Test.YtijnkglkchhomaaGreatKC1
set_option maxRecDepth 20000
set_option maxHeartbeats 16000000
set_option linter.unusedVariables false
set_option linter.unusedSimpArgs false
namespace Go.Abs
open Go Go.RowKit
variable {P:Program} {w0:World} {p0:Hp}
def kept (ok:Nat→Bool) (m:Mem) (l:List (Nat×AV)):List (Nat×AV)→Prop
  | []=>True
  | (t,a')::r=>(∃ a,lk l t=some a∧a.only ok m=a')∧kept ok m l r
theorem aE3 {ok:Nat→Bool} {m:Mem} {l:List (Nat×AV)}:∀ {l':List (Nat×AV)},kept ok m l l'→∀ t a',bF l' t=some a'→∃ a,bF l t=some a∧a.only ok m=a'
  | [],_,_,_,h=>by simp [bF] at h
  | (t0,a0)::r,h,t,a',hl=>by
    simp only[bF] at hl
    split at hl
    · rename_i e; subst e; cases hl
      obtain ⟨a,h1,h2⟩:=h.1
      exact⟨a,by rw[← kE]; exact h1,h2⟩
    · exact aE3 h.2 t a' hl
theorem pZ {n:Nat} {sl sl':List (Nat×AV)} {m m':Mem} (ok:Nat→Bool) (h:kept ok m sl sl') (hm:Mem.only ok m m=m'):Le ⟨n,sl,m⟩ ⟨n,sl',m'⟩:=by
  subst hm
  refine(Le.only ok ⟨n,sl,m⟩).trans ?_
  intro w0 p0 a w ⟨h1,h2,p,hE,hs,hm⟩
  refine⟨h1,h2,p,hE,fun t a' ht=>?_,hm⟩
  obtain ⟨b,hb1,hb2⟩:=aE3 h t a' ht
  refine hs t a' ?_
  show bF (sl.map fun x=>(x.1,x.2.only ok m)) t=some a'
  rw[qL m (fun x=>x.only ok m),hb1,← hb2]; rfl
def nee (g x:Nat):Bool:=match Nat.beq x g with | true=>false | false=>true
inductive TD where
  | bool
  | int (k:IntKind)
  | str
  | sl (b:Nat) (d:TD)
  | agg (ds:List TD)
  deriving Inhabited
mutual
def TD.n:TD→Nat
  | .agg ds=>TD.nL ds
  | .bool=>1
  | .int _=>1
  | .str=>1
  | .sl _ _=>1
def TD.nL:List TD→Nat
  | []=>0
  | d::r=>d.n+TD.nL r
end
def lF (P:Program) (f:TypeId→Option TD):Nat→List (Nat×TypeId)→Option (List TD)
  | _,[]=>some []
  | o,(off,t)::r=>match f t with
    | some d=>if off=o∧d.n=P.cellsOf t then (lF P f (o+d.n) r).map (d::·) else none
    | none=>none
def tdOf? (P:Program):Nat→TypeId→Option TD
  | 0,_=>none
  | n+1,t=>match P.underlying t with
    | some .bool=>some .bool
    | some (.int k)=>some (.int k)
    | some .string=>some .str
    | some (.slice e)=>match tdOf? P n e with
      | some d=>if d.n=P.cellsOf e∧0<d.n then some (.sl (P.bytesOf e) d) else none
      | none=>none
    | some (.struct fs)=>match lF P (tdOf? P n) 0 (fs.toList.map fun f=>(f.offset,f.type)) with
      | some ds=>if TD.nL ds=P.cellsOf t then some (.agg ds) else none
      | none=>none
    | some (.array m e)=>match lF P (tdOf? P n) 0 ((List.range m).map fun i=>(i*P.cellsOf e,e)) with
      | some ds=>if TD.nL ds=P.cellsOf t then some (.agg ds) else none
      | none=>none
    | _=>none
mutual
def EqTy:TD→List Value→List Value→Bool→Prop
  | .bool,xs,ys,r=>∃ a b,xs=[.bool a]∧ys=[.bool b]∧r=(a == b)
  | .int k,xs,ys,r=>∃ a b,xs=[.int k a]∧ys=[.int k b]∧r=(a == b)
  | .str,xs,ys,r=>∃ a b:ByteArray,xs=[.string a]∧ys=[.string b]∧r=(a.toList == b.toList)
  | .sl _ _,_,_,_=>False
  | .agg ds,xs,ys,r=>EqTyL ds xs ys r
def EqTyL:List TD→List Value→List Value→Bool→Prop
  | [],xs,ys,r=>xs=[]∧ys=[]∧r=true
  | d::ds,xs,ys,r=>∃ a b c e q s,xs=a++b∧ys=c++e∧EqTy d a c q∧EqTyL ds b e s∧r=(q&&s)
end
theorem wV:∀ (k:Nat) (d:TD),SizeOf.sizeOf d<k→∀ xs ys r,EqTy d xs ys r→xs.length=d.n∧ys.length=d.n
  | 0,d,h,_,_,_,_=>by omega
  | k+1,.bool,_,xs,ys,r,⟨a,b,h1,h2,_⟩=>by subst h1; subst h2; simp [TD.n]
  | k+1,.int _,_,xs,ys,r,⟨a,b,h1,h2,_⟩=>by subst h1; subst h2; simp [TD.n]
  | k+1,.str,_,xs,ys,r,⟨a,b,h1,h2,_⟩=>by subst h1; subst h2; simp [TD.n]
  | k+1,.sl _ _,_,xs,ys,r,h=>h.elim
  | k+1,.agg ds,hk,xs,ys,r,h=>by
    simp only[TD.n]
    simp only[EqTy] at h
    have:∀ (ds:List TD),SizeOf.sizeOf ds<k→∀ xs ys r,EqTyL ds xs ys r→xs.length=TD.nL ds∧ys.length=TD.nL ds:=by
      intro ds
      induction ds with
      | nil=>intro _ xs ys r h; simp only[EqTyL] at h; obtain ⟨rfl,rfl,_⟩:=h; simp [TD.nL]
      | cons d rest ih =>
        intro hs xs ys r h
        simp only[EqTyL] at h
        obtain ⟨a,b,c,e,q,s,rfl,rfl,h1,h2,_⟩:=h
        have i1:=wV k d (by simp at hs; omega) a c q h1
        have i2:=ih (by simp at hs; omega) b e s h2
        simp [TD.nL,i1,i2]
    exact this ds (by simp at hk; omega) xs ys r h
theorem aR9 {d:TD} {xs ys:List Value} {r:Bool} (h:EqTy d xs ys r):xs.length=d.n∧ys.length=d.n:=wV _ d (Nat.lt_succ_self _) xs ys r h
def vM (d:Nat) (xs ys:Array Value):List (Nat×TypeId)→Sem Bool
  | []=>pure true
  | (o,t)::r=>do
    let a ← part t xs o
    let b ← part t ys o
    let q ← Op.equalIn d t a b
    if (!q)=true then pure false else vM d xs ys r
theorem uX (d:Nat) (xs ys:Array Value):∀ fs:List Field,(∀ f∈fs,f.name≠"_")→Op.eqFields d xs ys fs=vM d xs ys (fs.map fun f=>(f.offset,f.type))
  | [],_=>rfl
  | f::fs,h=>by
    simp only[Op.eqFields,List.map_cons,vM]
    rw[if_pos (h f (by simp)),uX d xs ys fs (fun g hg=>h g (by simp [hg]))]
theorem wW (d:Nat) (e:TypeId) (c:Nat) (xs ys:Array Value):∀ is:List Nat,Op.eqItems d e c xs ys is=vM d xs ys (is.map fun i=>(i*c,e))
  | []=>rfl
  | i::is=>by
    simp only[Op.eqItems,List.map_cons,vM]
    rw[wW d e c xs ys is]
def TD.val:TD→List Value→Value
  | .agg _,cs=>.agg cs.toArray
  | _,cs=>cs.headD undef
theorem yN {n:Nat} {t:TypeId} {d:TD} (ht:tdOf? P n t=some d) (hn:d.n=P.cellsOf t) (a:List Value) (ha:a.length=d.n) (w:World) (i:TypeInfo) (hi:P.info? t=some i) (pre post:List Value) :
    (part t (pre++a++post).toArray pre.length).run P w=.ok (d.val a) w:=by
  cases n with
  | zero=>simp [tdOf?] at ht
  | succ n =>
    have hag:(∃ ds,d=.agg ds∧agg? P t=some true)∨((∀ cs,d.val cs=cs.headD undef)∧d.n=1∧agg? P t=some false):=by
      unfold tdOf? at ht
      unfold agg?
      split at ht
      all_goals first
        | (rename_i hu; rw[hu]; cases ht; exact .inr ⟨fun _=>rfl,rfl,rfl⟩)
        | (rename_i hu; rw[hu]; split at ht; (split at ht; (first | (cases ht; exact .inr ⟨fun _=>rfl,rfl,rfl⟩) | (cases ht; exact .inl ⟨_,rfl,rfl⟩) | cases ht); cases ht); cases ht)
        | cases ht
    rcases hag with ⟨ds,rfl,hag⟩ | ⟨hv,h1,hag⟩
    · have hc:cells? P t=some (TD.agg ds).n:=by
        unfold cells?
        rw[hi,hn]
        simp [Program.cellsOf,hi]
      rw[aEo hag hc]
      simp only[TD.val]
      congr 2
      rw[← ha]
      apply Array.ext_getElem?
      intro j
      rw[Array.getElem?_extract]
      simp only[List.getElem?_toArray,List.size_toArray,List.length_append]
      by_cases hj:j<a.length
      · rw[if_pos (by omega),List.append_assoc,List.getElem?_append_right (by omega),Nat.add_sub_cancel_left,List.getElem?_append_left hj]
      · rw[if_neg (by omega),List.getElem?_eq_none (by omega)]
    · rw[hv]
      match a,ha.trans h1 with
      | [v],_ =>
        rw[aEp hag (v:=v)]
        · rfl
        · simp
theorem aBp (f:TypeId→Option TD) (dd:Nat) (w:World) (hf:∀ t d,f t=some d→∃ n,tdOf? P n t=some d) (ok:TypeId→Prop)
    (IH:∀ t d,f t=some d→ok t→∀ xs ys r,EqTy d xs ys r→(Op.equalIn dd t (d.val xs) (d.val ys)).run P w=.ok r w) :
    ∀ (segs:List (Nat×TypeId)) (o:Nat) (ds:List TD),lF P f o segs=some ds→(∀ s∈segs,ok s.2∧(P.info? s.2).isSome=true) →
      ∀ (pre pre' xs ys:List Value) (r:Bool),pre.length=o→pre'.length=o→EqTyL ds xs ys r→(vM dd (pre++xs).toArray (pre'++ys).toArray segs).run P w=.ok r w:=by
  intro segs
  induction segs with
  | nil =>
    intro o ds h _ pre pre' xs ys r _ _ he
    simp only[lF,Option.some.injEq] at h
    subst h
    simp only[EqTyL] at he
    obtain ⟨_,_,rfl⟩:=he
    rfl
  | cons s rest ih =>
    intro o ds h hok pre pre' xs ys r h1 h2 he
    obtain ⟨off,t⟩:=s
    simp only[lF] at h
    split at h
    · rename_i d hd
      split at h
      · rename_i hc
        obtain ⟨rfl,hn⟩:=hc
        cases hr:lF P f (off+d.n) rest with
        | none=>simp [hr] at h
        | some es =>
          simp only[hr,Option.map_some,Option.some.injEq] at h
          subst h
          simp only[EqTyL] at he
          obtain ⟨a,b,c,e,q,s,rfl,rfl,he1,he2,rfl⟩:=he
          obtain ⟨hokt,hin⟩:=hok (off,t) (by simp)
          obtain ⟨i,hi⟩:=Option.isSome_iff_exists.1 hin
          obtain ⟨m,hm⟩:=hf t d hd
          obtain ⟨l1,l2⟩:=aR9 he1
          have p1:=yN hm hn a l1 w i hi pre b
          have p2:=yN hm hn c l2 w i hi pre' e
          rw[h1] at p1
          rw[h2] at p2
          have p3:=IH t d hd hokt a c q he1
          have p4:=ih (off+d.n) es hr (fun s hs=>hok s (by simp [hs])) (pre++a) (pre'++c) b e s (by simp [h1,l1]) (by simp [h2,l2]) he2
          simp only[List.append_assoc] at p1 p2 p4
          simp only[vM,Sem.run_bind,p1,p2,p3,Result.andThen_ok]
          cases q
          · simp
          · simpa using p4
      · cases h
    · cases h
theorem aBo (D:Nat):∀ (n:Nat) (t:TypeId) (d:TD),tdOf? P n t=some d→P.keyTypeAt n t=true→∀ (w:World) (xs ys:List Value) (r:Bool),EqTy d xs ys r →
    (Op.equalIn (D+n) t (d.val xs) (d.val ys)).run P w=.ok r w:=by
  intro n
  induction n with
  | zero=>intro t d h; simp [tdOf?] at h
  | succ n ih =>
    intro t d h hk w xs ys r he
    unfold tdOf? at h
    unfold Program.keyTypeAt at hk
    have info_of:∀ (fs:List (Nat×TypeId)) (o:Nat) (ds:List TD),lF P (tdOf? P n) o fs=some ds→∀ s∈fs,(P.info? s.2).isSome=true:=by
      intro fs
      induction fs with
      | nil=>intro o ds _ s hs; simp at hs
      | cons a r iha =>
        intro o ds h s hs
        obtain ⟨off,t⟩:=a
        simp only[lF] at h
        split at h
        · rename_i d hd
          split at h
          · cases hr:lF P (tdOf? P n) (o+d.n) r with
            | none=>simp [hr] at h
            | some es =>
              rcases List.mem_cons.1 hs with rfl | hs
              · cases n with
                | zero=>simp [tdOf?] at hd
                | succ m =>
                  unfold tdOf? at hd
                  cases hu:P.underlying t with
                  | none=>rw[hu] at hd; cases hd
                  | some u =>
                    simp only[Program.underlying] at hu
                    cases hi:P.info? t with
                    | none=>simp [hi] at hu
                    | some i=>rfl
              · exact iha _ es hr s hs
          · cases h
        · cases h
    split at h
    · rename_i ht; cases h
      simp only[EqTy] at he
      obtain ⟨a,b,rfl,rfl,rfl⟩:=he
      exact qS _ ht a b w
    · rename_i k ht; cases h
      simp only[EqTy] at he
      obtain ⟨a,b,rfl,rfl,rfl⟩:=he
      exact run_equalIn_int w _ t k k a b ht
    · rename_i ht; cases h
      simp only[EqTy] at he
      obtain ⟨a,b,rfl,rfl,rfl⟩:=he
      exact run_equalIn_string w _ t a b ht
    · rename_i e ht; rw[ht] at hk; cases hk
    · rename_i fs ht
      rw[ht] at hk
      split at h
      · rename_i ds hds
        split at h
        · rename_i hn
          cases h
          simp only[EqTy] at he
          simp only[Bool.and_eq_true,Bool.not_eq_true',Array.all_eq_true'] at hk
          obtain ⟨⟨hall,_⟩,hst⟩:=hk
          have hfo:P.fieldsOf t=fs:=by simp [Program.fieldsOf,ht]
          simp only[TD.val]
          rw[show D+(n+1)=(D+n)+1 from rfl,run_equalIn_struct w (D+n) t xs.toArray ys.toArray (by rw[hfo]; exact ht) (by simpa using hst),hfo,uX]
          · have:=aBp (tdOf? P n) (D+n) w (fun t d h=>⟨n,h⟩) (fun t=>P.keyTypeAt n t=true) (fun t d h hk xs ys r he=>ih t d h hk w xs ys r he) _ 0 ds hds (fun s hs=>by
              refine⟨?_,info_of _ 0 ds hds s hs⟩
              obtain ⟨f,hf,rfl⟩:=List.mem_map.1 hs
              have:=hall f (by simpa using hf)
              exact this.2) [] [] xs ys r rfl rfl he
            simpa using this
          · intro f hf
            have:=hall f (by simpa using hf)
            simpa using this.1
        · cases h
      · cases h
    · rename_i m e ht
      rw[ht] at hk
      split at h
      · rename_i ds hds
        split at h
        · rename_i hn
          cases h
          simp only[EqTy] at he
          simp only[TD.val]
          cases m with
          | zero =>
            simp only[List.range_zero,List.map_nil,lF,Option.some.injEq] at hds
            subst hds
            simp only[EqTyL] at he
            obtain ⟨rfl,rfl,rfl⟩:=he
            have hsz:∃ i,P.info? e=some i:=by
              cases n with
              | zero=>simp [Program.keyTypeAt] at hk
              | succ q =>
                cases hu:P.underlying e with
                | none=>exfalso; unfold Program.keyTypeAt at hk; simp [hu] at hk
                | some u =>
                  simp only[Program.underlying] at hu
                  cases hi:P.info? e with
                  | none=>simp [hi] at hu
                  | some i=>exact⟨i,rfl⟩
            obtain ⟨i,hi⟩:=hsz
            rw[show D+(n+1)=(D+n)+1 from rfl,run_equalIn_array w (D+n) _ _ ht hi]
            rfl
          | succ m =>
            have hin:=info_of _ 0 ds hds (0*P.cellsOf e,e) (List.mem_map.2 ⟨0,by simp,rfl⟩)
            obtain ⟨i,hi⟩:=Option.isSome_iff_exists.1 hin
            rw[show D+(n+1)=(D+n)+1 from rfl,run_equalIn_array w (D+n) _ _ ht hi,wW]
            have:=aBp (tdOf? P n) (D+n) w (fun t d h=>⟨n,h⟩) (fun t=>P.keyTypeAt n t=true) (fun t d h hk xs ys r he=>ih t d h hk w xs ys r he) _ 0 ds hds (fun s hs=>by
              refine⟨?_,info_of _ 0 ds hds s hs⟩
              obtain ⟨f,hf,rfl⟩:=List.mem_map.1 hs
              exact hk) [] [] xs ys r rfl rfl he
            simpa using this
        · cases h
      · cases h
    · cases h
def eqT? (P:Program) (t:TypeId):Option TD:=if P.keyTypeAt 16 t&&!P.eqGuardType P.depth t then tdOf? P 16 t else none
def aeq1 (d:TD) (x y:AV):Option Bool:=match d with
  | .int k=>match x,y with
    | .s (.int k1 a),.s (.int k2 b)=>if k1=k∧k2=k then some (a == b) else none
    | _,_=>none
  | .str=>match x,y with
    | .s (.string a),.s (.string b)=>some (a.toList == b.toList)
    | _,_=>none
  | .bool=>match x,y with
    | .s (.bool a),.s (.bool b)=>some (a == b)
    | _,_=>none
  | _=>none
def aSo (d:TD) (xs ys:List AV):Option (Bool×List AV×List AV):=match xs,ys with
  | x::xs,y::ys=>match aeq1 d x y with | some r=>some (r,xs,ys) | none=>none
  | _,_=>none
theorem aC4 {d:TD} {xs ys xs' ys':List AV} {r:Bool} (h:aSo d xs ys=some (r,xs',ys')):∃ xas bs:List Value,xs=xas.map .s++xs'∧ys=bs.map .s++ys'∧EqTy d xas bs r:=by
  unfold aSo at h
  split at h
  · split at h
    · rename_i q hq
      cases h
      unfold aeq1 at hq
      split at hq
      · split at hq
        · split at hq
          · rename_i hk
            obtain ⟨rfl,rfl⟩:=hk
            cases hq
            exact⟨[_],[_],rfl,rfl,by simp only[EqTy]; exact⟨_,_,rfl,rfl,rfl⟩⟩
          · cases hq
        · cases hq
      · split at hq
        · cases hq
          exact⟨[_],[_],rfl,rfl,by simp only[EqTy]; exact⟨_,_,rfl,rfl,rfl⟩⟩
        · cases hq
      · split at hq
        · cases hq
          exact⟨[_],[_],rfl,rfl,by simp only[EqTy]; exact⟨_,_,rfl,rfl,rfl⟩⟩
        · cases hq
      · cases hq
    · cases h
  · cases h
mutual
def aeq:TD→List AV→List AV→Option (Bool×List AV×List AV)
  | .agg ds,xs,ys=>aeqL ds xs ys
  | .int k,xs,ys=>aSo (.int k) xs ys
  | .str,xs,ys=>aSo .str xs ys
  | .bool,xs,ys=>aSo .bool xs ys
  | .sl _ _,_,_=>none
def aeqL:List TD→List AV→List AV→Option (Bool×List AV×List AV)
  | [],xs,ys=>some (true,xs,ys)
  | d::r,xs,ys=>match aeq d xs ys with
    | some (q,xs',ys')=>match aeqL r xs' ys' with | some (s,x2,y2)=>some (q&&s,x2,y2) | none=>none
    | none=>none
end
theorem aOx:∀ (k:Nat) (d:TD),SizeOf.sizeOf d<k→∀ xs ys r xs' ys',aeq d xs ys=some (r,xs',ys')→∃ xas bs:List Value,xs=xas.map .s++xs'∧ys=bs.map .s++ys'∧EqTy d xas bs r
  | 0,d,h,_,_,_,_,_,_=>by omega
  | k+1,.bool,_,xs,ys,r,xs',ys',h=>aC4 (by simpa [aeq] using h)
  | k+1,.int kd,_,xs,ys,r,xs',ys',h=>aC4 (by simpa [aeq] using h)
  | k+1,.str,_,xs,ys,r,xs',ys',h=>aC4 (by simpa [aeq] using h)
  | k+1,.sl _ _,_,xs,ys,r,xs',ys',h=>by simp [aeq] at h
  | k+1,.agg ds,hk,xs,ys,r,xs',ys',h=>by
    have h:aeqL ds xs ys=some (r,xs',ys'):=by simpa [aeq] using h
    simp only[EqTy]
    have:∀ (ds:List TD),SizeOf.sizeOf ds<k→∀ xs ys r xs' ys',aeqL ds xs ys=some (r,xs',ys')→∃ xas bs:List Value,xs=xas.map .s++xs'∧ys=bs.map .s++ys'∧EqTyL ds xas bs r:=by
      intro ds
      induction ds with
      | nil =>
        intro _ xs ys r xs' ys' h
        simp only[aeqL,Option.some.injEq,Prod.mk.injEq] at h
        obtain ⟨rfl,rfl,rfl⟩:=h
        exact⟨[],[],rfl,rfl,by simp [EqTyL]⟩
      | cons d rest ih =>
        intro hs xs ys r xs' ys' h
        simp only[aeqL] at h
        split at h
        · rename_i q x1 y1 h1
          split at h
          · rename_i s x2 y2 h2
            cases h
            obtain ⟨xas,bs,e1,e2,e3⟩:=aOx k d (by simp at hs; omega) _ _ _ _ _ h1
            obtain ⟨as',bs',f1,f2,f3⟩:=ih (by simp at hs; omega) _ _ _ _ _ h2
            exact⟨xas++as',bs++bs',by rw[e1,f1]; simp,by rw[e2,f2]; simp,by simp only[EqTyL]; exact⟨xas,as',bs,bs',q,s,rfl,rfl,e3,f3,rfl⟩⟩
          · cases h
        · cases h
    exact this ds (by simp at hk; omega) xs ys r xs' ys' h
theorem aBz {o:Oper} {σ:St} {op:BinOp} {t yt:TypeId} {x y:Operand} {cs cs':List AV} {ds:List TD} {r b:Bool} (ho:o.op=.binOp op t x y yt) (hx:σ.ev x=.agg cs) (hy:σ.ev y=.agg cs')
    (ht:eqT? P t=some (.agg ds)) (h:aeqL ds cs cs'=some (r,[],[])) (hop:op=.eql∧b=r∨op=.neq∧b=!r):cE P o σ (.s (.bool b)):=by
  intro act w p hs _
  have h1:=dP hs x
  have h2:=dP hs y
  rw[hx] at h1
  rw[hy] at h2
  obtain ⟨xas,bs,e1,e2,e3⟩:=aOx _ (.agg ds) (Nat.lt_succ_self _) cs cs' r [] [] (by simpa [aeq] using h)
  simp only[List.append_nil] at e1 e2
  have vals:∀ (xas:List Value) v,RelV w p (.agg (xas.map .s)) v→v=.agg xas.toArray:=by
    intro xas v hv
    cases hv with
    | agg _ us hl hc =>
      congr 1
      apply Array.ext_getElem?
      intro i
      cases hi:xas[i]? with
      | none =>
        have:xas.length≤i:=by simpa using hi
        simp at hl
        have e:us.size≤i:=by omega
        simp [e,hi,this]
      | some a =>
        have hlt:=(List.getElem?_eq_some_iff.1 hi).1
        simp at hl
        have hu:us[i]?=some us[i]:=by simp
        have:=(hc i (.s a) us[i] (by simp [hi]) hu).s_inv
        have e:i<us.size:=by omega
        simp [hi,this,e]
  subst e1; subst e2
  have v1:=vals xas _ h1
  have v2:=vals bs _ h2
  refine⟨.bool b,?_,.s _⟩
  unfold eqT? at ht
  split at ht
  · rename_i hc
    simp only[Bool.and_eq_true,Bool.not_eq_true'] at hc
    have hrun:=aBo 9984 16 t _ ht hc.1 w xas bs r e3
    have hrun':(Op.equal t (.agg xas.toArray) (.agg bs.toArray)).run P w=.ok r w:=hrun
    have hg:=run_eqGuard_agg (P:=P) w op t x y xas.toArray bs.toArray hc.2
    rcases hop with ⟨rfl,rfl⟩ | ⟨rfl,rfl⟩
    · simp [execOp,ho,v1,v2,Sem.run_bind,hg,binOp,hrun']
    · simp [execOp,ho,v1,v2,Sem.run_bind,hg,binOp,hrun']
  · cases ht
section
variable {ops:Array Oper} {rest:List Oper} {n d ty:Nat} {ps:String} {af:Array Edge} {gd:Option (Nat×Bool)} {sl:List (Nat×AV)} {m:Mem} {Q:Exit→St→Prop}
theorem iR {t yt:TypeId} {x y:Operand} {cs cs':List AV} {ds:List TD} {r:Bool} (hx:ev sl x=some (.agg cs)) (hy:ev sl y=some (.agg cs')) (ht:eqT? P t=some (.agg ds)) (h:aeqL ds cs cs'=some (r,[],[])) :
    cE P ⟨some d,.binOp .eql t x y yt,ty,ps,af,gd⟩ ⟨n,sl,m⟩ (.s (.bool r)):=aBz rfl (cO hx) (cO hy) ht h (.inl ⟨rfl,rfl⟩)
theorem p_neagg {t yt:TypeId} {x y:Operand} {cs cs':List AV} {ds:List TD} {r:Bool} (hx:ev sl x=some (.agg cs)) (hy:ev sl y=some (.agg cs')) (ht:eqT? P t=some (.agg ds)) (h:aeqL ds cs cs'=some (r,[],[])) :
    cE P ⟨some d,.binOp .neq t x y yt,ty,ps,af,gd⟩ ⟨n,sl,m⟩ (.s (.bool !r)):=aBz rfl (cO hx) (cO hy) ht h (.inr ⟨rfl,rfl⟩)
end
end Go.Abs
set_option linter.unusedVariables false
set_option linter.unusedSimpArgs false
namespace Go.Abs
open Go Go.RowKit
variable {P:Program} {w0:World} {p0:Hp}
theorem uW {z:Array Value} {n:Nat} {v:Value} (hz:0<z.size) (h:v∈(Builtin.zeroCells z n).toList):v∈z.toList:=by
  simp only[Builtin.zeroCells,Array.toList_map,List.mem_map,Array.toList_range] at h
  obtain ⟨i,_,rfl⟩:=h
  have hlt:i % z.size<z.size:=Nat.mod_lt _ hz
  rw[getElem!_pos z _ hlt]
  exact Array.getElem_mem_toList hlt
theorem aQm {o:Oper} {σ:St} {K:St→Prop} (hf:Fit w0 p0) {x:Operand} {t e g k by_ off c:Nat} {xs:List (List AV)} {zs:List Value} (ho:o.op=.call { callee:=.builtin .clear,args:=#[x],argTypes:=#[t] }) (hdst:o.dst=none)
    (ht:appT? P t=some (e,k,by_)) (hz:zeros? P e=some zs) (hz1:∀ u∈zs,u.oneCell'=true) (hx:σ.ev x=.own g k off c) (hl:bF σ.mem g=some (.buf k xs))
    (hK:K { σ with mem:=mE g (.buf k (xs.take off)) σ.mem }):AOp P w0 p0 o σ K:=by
  intro a w next Q ⟨h1,h2,p,hE,hs,hm⟩ hnx
  obtain ⟨he,hck,hk0,i,z,hi,hzz,hik,hby,hzc⟩:=appT?_inv ht
  have hr:=dP hs x
  rw[hx] at hr
  generalize hv:a.eval x=v at *
  -- a world that keeps all but the cells behind
  have fin:∀ w':World,Keeps w p w' p→w'.os=w.os→w'.tape=w.tape→w'.drawn=w.drawn→w'.output=w.output→w'.heap.size=w.heap.size→(∀ b,p.A b→w'.heap[b]?=w.heap[b]?) →
      (∀ g' b,g'≠g→p.o g'=some (some b)→w'.heap[b]?=w.heap[b]?) →
      (∀ b cur T,p.o g=some (some b)→w.heap[b]?=some (.cells cur T (0,0))→∃ cur',w'.heap[b]?=some (.cells cur' T (0,0))∧cur'.size=cur.size∧∀ q,q<off*k→cur'[q]?=cur[q]?) →
      Rel w0 p0 { σ with mem:=mE g (.buf k (xs.take off)) σ.mem } (a.put none undef) w':=by
    intro w' hk e1 e2 e2' e3 e4 e5 e6 e7
    refine⟨h1,h2,p,hE.step hk e1 ⟨e2,by rw[e2']; exact Nat.le_refl _⟩ e3 (by rw[e4]; exact Nat.le_refl _) rfl (fun b _ hA=>e5 b hA) (fun g' h1 h2=>absurd h1 h2),hs.keep hk,⟨fun g' hg'=>?_,fun g' mm hg'=>?_,hm.inj,hm.avoid⟩⟩
    · rw[hU g _ σ.mem (by rw[hl]; rfl) g'] at hg'
      split at hg'
      · cases hg'
      · exact hm.dom g' hg'
    · rw[hU g _ σ.mem (by rw[hl]; rfl) g'] at hg'
      split at hg'
      · rename_i heq
        subst heq
        cases hg'
        rcases hm.holds g' _ hl with ⟨d0,d1⟩ | ⟨b,cur,T,d1,d2,d3,d4,d5⟩
        · exact .inl ⟨by rw[d0]; simp,d1⟩
        · obtain ⟨cur',f1,f2,f3⟩:=e7 b cur T d1 d2
          refine .inr ⟨b,cur',T,d1,f1,?_,fun y hy=>d4 y (List.mem_of_mem_take hy),fun j y i' c' hj hi'=>?_⟩
          · rw[f2]
            refine Nat.le_trans (Nat.mul_le_mul_right _ ?_) d3
            simp; omega
          · rw[List.getElem?_take] at hj
            split at hj
            · rename_i hjo
              obtain ⟨u,hu,hru⟩:=d5 j y i' c' hj hi'
              have hil:=(List.getElem?_eq_some_iff.1 hi').1
              rw[(d4 y (List.mem_of_getElem? hj)).1] at hil
              have hjk:(j+1)*k≤off*k:=Nat.mul_le_mul_right _ hjo
              rw[Nat.add_mul] at hjk
              exact⟨u,by rw[f3 _ (by omega)]; exact hu,hru.keep hk⟩
            · cases hj
      · rename_i hne
        exact(hm.holds g' mm hg').keep hk fun b hb=>e6 g' b hne hb
  have noop:o.upon P a next Q (.ok (.value (.tuple #[])) w):=by
    simp only[Oper.upon]
    refine hnx _ _ _ hK ?_
    rw[hdst]
    exact fin w (Keeps.refl w p) rfl rfl rfl rfl rfl (fun _ _=>rfl) (fun _ _ _ _=>rfl) (fun b cur T _ hh=>⟨cur,hh,rfl,fun _ _=>rfl⟩)
  unfold Oper.wp
  cases hr with
  | ownn _ _ hg =>
    have hrun:(execOp a.eval o).run P w=.ok (.value (.tuple #[])) w:=by
      simp [execOp,ho,resolve,invoke,builtin,Builtin.clear_,hv,run_underlying (elem?_inv he)]
    rw[hrun]; exact noop
  | own0 _ _ _ b ad hg =>
    have hrun:(execOp a.eval o).run P w=.ok (.value (.tuple #[])) w:=by
      simp [execOp,ho,resolve,invoke,builtin,Builtin.clear_,hv,run_underlying (elem?_inv he)]
    rw[hrun]; exact noop
  | own _ _ _ _ b cap cur T hg hnc hcap hh hsz =>
    by_cases hc0:c=0
    · subst hc0
      have hrun:(execOp a.eval o).run P w=.ok (.value (.tuple #[])) w:=by
        simp [execOp,ho,resolve,invoke,builtin,Builtin.clear_,hv,run_underlying (elem?_inv he)]
      rw[hrun]; exact noop
    · have hzs:zs=z.cells.toList:=by
        unfold zeros? at hz; simp [hi,hzz] at hz; exact hz.symm
      have hrz:(zeroValue e).run P w=.ok z w:=by simp [zeroValue,typeInfo,hi,hzz]
      have hlen:(Builtin.zeroCells z.cells c).toList.length=c*k:=by
        rw[Array.length_toList,size_zeroCells,hzc]
      have hfit:off*k+0+(Builtin.zeroCells z.cells c).toList.length≤cur.size:=by
        rw[hlen]
        have:c*k≤cap*k:=Nat.mul_le_mul_right _ hnc
        omega
      have hst:=run_storeCells_at P b (off*k) T (Builtin.zeroCells z.cells c).toList 0 cur w hh hfit (fun u hu=>hz1 u (by rw[hzs]; exact uW (by rw[hzc]; exact hk0) hu))
      simp only[Nat.add_zero] at hst hfit
      generalize hcs:(cur.toList.take (off*k)++(Builtin.zeroCells z.cells c).toList++cur.toList.drop (off*k+(Builtin.zeroCells z.cells c).toList.length)).toArray=cs at hst
      have hrun:(execOp a.eval o).run P w=.ok (.value (.tuple #[])) (w.setRow b cs):=by
        simp [execOp,ho,resolve,invoke,builtin,Builtin.clear_,hv,run_underlying (elem?_inv he),hc0,hrz,hst]
      have hcsz:cs.size=cur.size:=by
        rw[← hcs]; simp only[List.size_toArray,List.length_append,List.length_take,List.length_drop]
        simp only[Array.length_toList] at hlen hfit ⊢
        omega
      have hbk:(w.setRow b cs).heap[b]?=some (.cells cs T (0,0)):=setRow_heap w b cur cs T _ hh
      have hoth:∀ b',b'≠b→(w.setRow b cs).heap[b']?=w.heap[b']?:=fun b' hne=>setRow_other w b b' cs hne
      have hwsz:(w.setRow b cs).heap.size=w.heap.size:=by simp [World.setRow]
      have hkeep:Keeps w p (w.setRow b cs) p:=by
        refine⟨fun b' hb'=>?_,fun _ _ h=>h,fun g' b' hg' cur2 T2 hh2=>?_⟩
        · have hne:b'≠b:=fun e=>hb'.2.1 g (e ▸ hg)
          exact⟨⟨by rw[hwsz]; exact hb'.1,hb'.2⟩,hoth b' hne⟩
        · by_cases hne:b'=b
          · subst hne; rw[hh] at hh2; cases hh2; exact⟨cs,hbk,hcsz⟩
          · exact⟨cur2,by rw[hoth b' hne]; exact hh2,rfl⟩
      rw[hrun]
      simp only[Oper.upon]
      refine hnx _ _ _ hK ?_
      rw[hdst]
      refine fin _ hkeep rfl rfl rfl rfl hwsz (fun b' hA=>hoth b' (fun e=>hm.avoid g b hg (e ▸ hA))) (fun g' b' hne hb'=>hoth b' (fun e=>hne (hm.inj g' g b (e ▸ hb') hg))) (fun b' cur' T' hb' hh'=>?_)
      rw[hg] at hb'; cases hb'
      rw[hh] at hh'; cases hh'
      refine⟨cs,hbk,hcsz,fun q hq=>?_⟩
      rw[← hcs]
      have:q<(cur.toList.take (off*k)).length:=by
        simp
        have:off*k+cap*k≤cur.size:=hsz
        omega
      rw[List.append_assoc,List.getElem?_toArray,List.getElem?_append_left this,List.getElem?_take,if_pos hq]
      simp
theorem aJy {o:Oper} {σ:St} {K:St→Prop} (hf:Fit w0 p0) {s x:Operand} {t tn e k by_ d:Nat} {kn kx:IntKind} {n:Nat} (ho:o.op=.call { callee:=.builtin .append,args:=#[s,x],argTypes:=#[t,tn] }) (hdst:o.dst=some d) (hd:d<σ.n) (hfr:σ.fresh d)
    (ht:appT? P t=some (e,k,by_)) (htn:P.underlying tn=some (.int kn)) (hs:σ.ev s=.s (.slice none 0 0)) (hx:σ.ev x=.s (.int kx n)) (hn0:0<n) (hby:n*by_≤140737488355328) (hmax:n≤maxLen)
    (hK:K ({ σ with mem:=(d,.buf k [])::σ.mem }.put d (.own d k 0 n))):AOp P w0 p0 o σ K:=by
  intro a w next Q hr hnx
  obtain ⟨he,hck,hk0,i,z,hi,hz,rfl,rfl,hzc⟩:=appT?_inv ht
  have hslots:∀ p,SlotsRel w p σ.slots a.tmps→a.eval s=.slice none 0 0∧a.eval x=.int kx n:=fun p hsl=>⟨nQ hsl hs,nQ hsl hx⟩
  have hr0:=hr
  obtain ⟨h1,h2,p,hE,hsl,hm⟩:=hr0
  obtain ⟨es,ex⟩:=hslots p hsl
  have hmx:maxLen=9223372036854775807:=rfl
  have happ:=Go.Lib.run_append_nil_zeros (P:=P) w t tn o.type e i z kx kn (elem?_inv he) htn hi hz n hn0 hk0 (by omega) (by omega)
  have hexec:(execOp a.eval o).run P w=.ok (.value (.slice (some ⟨w.heap.size,0,none⟩) n (grownCap w n 0 e))) (w.drew.alloc (.cells (Builtin.zeroCells z.cells n++Builtin.zeroCells z.cells (grownCap w n 0 e - n)) e)):=by
    simp only[execOp,ho,resolve,invoke,builtin,Sem.run_bind,Sem.run_pure,Result.andThen_ok,List.map_toArray,List.map_cons,List.map_nil,es,ex,happ]
  unfold Oper.wp
  rw[hexec]
  simp only[Oper.upon]
  refine hnx _ _ _ hK ?_
  have hr':Rel w0 p0 σ a w.drew:=Rel.drew hr
  have hcapn:=grownCap_ge w n 0 e
  have hcapm:=grownCap_le_maxLen w n 0 e hmax
  have:=uD hf hr' hfr o.dst (fun y hy=>by rw[hdst] at hy; cases hy; exact hd) (Builtin.zeroCells z.cells n++Builtin.zeroCells z.cells (grownCap w n 0 e - n)) e (.buf i.size []) (.own d i.size 0 n) (.slice (some ⟨w.heap.size,0,none⟩) n (grownCap w n 0 e)) ?_ ?_
  · rw[hdst] at this ⊢; exact this
  · intro p hs hm hkp
    exact .inr ⟨w.heap.size,_,e,by simp [Hp.upd],heap_alloc_new w.drew _,by simp,by simp,by simp⟩
  · intro p hm
    have:=RelV.own (w:=w.drew.alloc (.cells (Builtin.zeroCells z.cells n++Builtin.zeroCells z.cells (grownCap w n 0 e - n)) e)) (p:=p.upd d (some (some w.heap.size))) d i.size 0 n w.heap.size (grownCap w n 0 e) _ e (by simp [Hp.upd]) hcapn hcapm (heap_alloc_new w.drew _)
      (by
        have e1:n*i.size+(grownCap w n 0 e - n)*i.size=grownCap w n 0 e*i.size:=by rw[← Nat.add_mul]; congr 1; omega
        simp only[Array.size_append,size_zeroCells,hzc,e1]; omega)
    simpa using this
section
variable {ops:Array Oper} {rest:List Oper} {n d ty:Nat} {ps:String} {af:Array Edge} {gd:Option (Nat×Bool)} {sl:List (Nat×AV)} {m:Mem} {Q:Exit→St→Prop}
theorem tU (hf:Fit w0 p0) {x:Operand} {t e g k by_ off c:Nat} {xs:List (List AV)} {zs:List Value} (ht:appT? P t=some (e,k,by_)) (hz:zeros? P e=some zs) (hz1:∀ u∈zs,u.oneCell'=true) (hx:ev sl x=some (.own g k off c)) (hl:lk m g=some (.buf k xs))
    (hk:eW P w0 p0 ops rest ⟨n,sl,mE g (.buf k (xs.take off)) m⟩ Q):eW P w0 p0 ops (⟨none,.call { callee:=.builtin .clear,args:=#[x],argTypes:=#[t] },ty,ps,af,none⟩::rest) ⟨n,sl,m⟩ Q :=
  fD rfl (aQm hf rfl rfl ht hz hz1 (cO hx) (by rw[← kE]; exact hl) hk)
theorem tV (hf:Fit w0 p0) {s x:Operand} {t tn e k by_ c:Nat} {kn kx:IntKind} (hd:lt d n=true) (hE:lt d E0=true) (hl:lk m d=none) (ht:appT? P t=some (e,k,by_)) (htn:P.underlying tn=some (.int kn))
    (hs:ev sl s=some (.s (.slice none 0 0))) (hx:ev sl x=some (.s (.int kx (c:Nat)))) (hn0:0<c) (hby:c*by_≤140737488355328) (hmax:c≤maxLen)
    (hk:eW P w0 p0 ops rest ⟨n,(d,.own d k 0 c)::sl,(d,.buf k [])::m⟩ Q):eW P w0 p0 ops (⟨some d,.call { callee:=.builtin .append,args:=#[s,x],argTypes:=#[t,tn] },ty,ps,af,none⟩::rest) ⟨n,sl,m⟩ Q :=
  fD rfl (aJy hf rfl rfl (oF hd) (pF hE hl) ht htn (cO hs) (cO hx) hn0 hby hmax hk)
theorem aPj {t e:Nat} {x:Operand} (hx:ev sl x=some (.s (.slice none 0 0))) (ht:elem? P t=some e):cE P ⟨some d,.call { callee:=.builtin .len,args:=#[x],argTypes:=#[t] },ty,ps,af,gd⟩ ⟨n,sl,m⟩ (.s (.int .i64 0)):=by
  intro act w p hs _
  exact⟨_,by simp [execOp,resolve,invoke,builtin,Builtin.len_,nQ hs (cO hx),run_underlying (elem?_inv ht),goInt],.s _⟩
theorem lO {t e:Nat} {x:Operand} (hx:ev sl x=some (.s (.slice none 0 0))) (ht:elem? P t=some e):cE P ⟨some d,.call { callee:=.builtin .cap,args:=#[x],argTypes:=#[t] },ty,ps,af,gd⟩ ⟨n,sl,m⟩ (.s (.int .i64 0)):=by
  intro act w p hs _
  exact⟨_,by simp [execOp,resolve,invoke,builtin,Builtin.cap_,nQ hs (cO hx),run_underlying (elem?_inv ht),goInt],.s _⟩
theorem pX {t e k:Nat} {x y:Operand} {kd:IntKind} (hx:ev sl x=some (.s (.slice none 0 0))) (ht:elem? P t=some e) (hc:cells? P e=some k) (hy:ev sl y=some (.s (.int kd 0))):cE P ⟨some d,.slice t x none (some y) none,ty,ps,af,gd⟩ ⟨n,sl,m⟩ (.s (.slice none 0 0)):=by
  intro act w p hs _
  have hb:=rO (P:=P) (lo:=none) (hi:=some y) (len:=0) (cap:=0) (l:=0) (h:=0) hs rfl (by simp [bnd,cO hy]) (Nat.le_refl _) (Nat.le_refl _)
  simp only[Option.map_none,Option.map_some] at hb
  refine⟨_,?_,.s _⟩
  simp [execOp,nQ hs (cO hx),Instr.sliceAt,Instr.slice,run_underlying (elem?_inv ht),hb,eC hc]
theorem aFk (hf:Fit w0 p0) (k:Nat) {x:Operand} (hd:lt d n=true) (hE:lt d E0=true) (hl:lk m d=none) (hx:ev sl x=some (.s (.slice none 0 0))) (hk:eW P w0 p0 ops rest ⟨n,(d,.own d k 0 0)::sl,(d,.buf k [])::m⟩ Q) :
    eW P w0 p0 ops (⟨some d,.assign x,ty,ps,af,none⟩::rest) ⟨n,sl,m⟩ Q:=by
  refine fD rfl ?_
  intro a w next Q' hr hn
  have h0:=aOw (P:=P) (o:=⟨some d,.assign (.const (.slice none 0 0)),ty,ps,af,none⟩) (σ:=⟨n,sl,m⟩) (K:=fun σ'=>eW P w0 p0 ops rest σ' Q) hf k rfl rfl (oF hd) (pF hE hl) hk a w next Q' hr hn
  obtain ⟨h1,h2,p,hE',hs,hm⟩:=hr
  have e:=nQ hs (cO (n:=n) (m:=m) hx)
  have hr1:(execOp a.eval ⟨some d,.assign x,ty,ps,af,none⟩).run P w=.ok (.value (.slice none 0 0)) w:=by simp [execOp,e]
  have hr2:(execOp a.eval ⟨some d,.assign (.const (.slice none 0 0)),ty,ps,af,none⟩).run P w=.ok (.value (.slice none 0 0)) w:=by simp [execOp,Act.eval]
  unfold Oper.wp at h0 ⊢
  rw[hr2] at h0
  rw[hr1]
  exact h0
end
end Go.Abs
set_option linter.unusedVariables false
set_option linter.unusedSimpArgs false
namespace Go.Abs
open Go Go.RowKit
variable {P:Program} {w0:World} {p0:Hp} {ops:Array Oper} {md:Region.Mode} {n:Nat} {mem:Mem}
def aCs (md:Region.Mode) (o:Oper):List Nat:=(o.after.toList.filter (Region.binds md)).map (·.on)
def aF2 (m:Array Bool) (l:List Nat):Array Bool:=l.foldl (fun m d=>m.setIfInBounds d true) m
def uI (md:Region.Mode) (ops:Array Oper):Nat→Array Bool→Array Bool
  | 0,m=>m
  | i+1,m=>uI md ops i (if m.getD i false then aF2 m (match ops[i]? with | some o=>aCs md o | none=>[]) else m)
def qR (md:Region.Mode) (ops:Array Oper) (stop:Nat):Bool :=
  (List.range ops.size).all fun j=>decide (j<stop)||(match ops[j]? with
    | some o=>(List.range stop).all fun i=>(uI md ops ops.size (aF2 (Array.replicate ops.size false) (aCs md o))).getD i false
    | none=>true)
def Closed (md:Region.Mode) (ops:Array Oper) (listed:Array Bool):Prop:=∀ i,listed.getD i false=true→∀ o,ops[i]?=some o→∀ d∈aCs md o,listed.getD d false=true
def Sub (m listed:Array Bool):Prop:=∀ i,m.getD i false=true→listed.getD i false=true
theorem aI3 {m:Array Bool} {d i:Nat} (h:(m.setIfInBounds d true).getD i false=true):i=d∨m.getD i false=true:=by
  by_cases hd:d=i
  · exact .inl hd.symm
  · rw[getD_set_ne false hd] at h; exact .inr h
theorem sZ {listed:Array Bool}:∀ (l:List Nat) (m:Array Bool),Sub m listed→(∀ d∈l,listed.getD d false=true)→Sub (aF2 m l) listed
  | [],m,h,_=>h
  | d::l,m,h,hl=>by
    refine sZ l _ (fun i hi=>?_) (fun d hd=>hl d (by simp [hd]))
    rcases aI3 hi with rfl | hi
    · exact hl _ (by simp)
    · exact h i hi
theorem uZ {listed:Array Bool} (hc:Closed md ops listed):∀ (i:Nat) (m:Array Bool),Sub m listed→Sub (uI md ops i m) listed
  | 0,m,h=>h
  | i+1,m,h=>by
    simp only[uI]
    refine uZ hc i _ ?_
    split
    · rename_i hm
      refine sZ _ m h ?_
      cases ho:ops[i]? with
      | none=>simp
      | some o=>exact fun d hd=>hc i (h i hm) o ho d hd
    · exact h
theorem aCt {listed:Array Bool} {j:Nat} {o:Oper} (ho:ops[j]?=some o) (hj:j∈Region.ready md ops listed):∀ d∈aCs md o,listed.getD d false=true:=by
  obtain ⟨_,o',ho',hall⟩:=mem_ready.1 hj
  rw[ho] at ho'; cases ho'
  intro d hd
  simp only[aCs,List.mem_map,List.mem_filter] at hd
  obtain ⟨e,⟨he,hb⟩,rfl⟩:=hd
  exact hall e (by simpa using he) hb
theorem aL5 {listed:Array Bool} {stop j:Nat} (ht:qR md ops stop=true) (hc:Closed md ops listed) (hj:j∈Region.ready md ops listed) (hs:stop≤j):∀ i,i<stop→listed.getD i false=true:=by
  obtain ⟨_,o,ho,_⟩:=mem_ready.1 hj
  have hlt:=(Array.getElem?_eq_some_iff.1 ho).1
  simp only[qR,List.all_eq_true,List.mem_range] at ht
  have h1:=ht j hlt
  have hns:¬ j<stop:=by omega
  simp only[hns,decide_false,Bool.false_or,ho,List.all_eq_true,List.mem_range] at h1
  intro i hi
  refine uZ hc ops.size _ (sZ _ _ (fun q hq=>?_) (aCt ho hj)) i (h1 i hi)
  exfalso
  rw[Array.getD_eq_getD_getElem?] at hq
  rw[Array.getElem?_replicate] at hq
  split at hq <;> simp at hq
theorem Closed.set {listed:Array Bool} {j:Nat} (hc:Closed md ops listed) (hj:j∈Region.ready md ops listed):Closed md ops (listed.setIfInBounds j true):=by
  intro i hi o ho d hd
  rcases aI3 hi with rfl | hi
  · exact getD_set_true (aCt ho hj d hd)
  · exact getD_set_true (hc i hi o ho d hd)
theorem aJr:Closed md ops (Array.replicate ops.size false):=by
  intro i hi
  exfalso
  rw[Array.getD_eq_getD_getElem?,Array.getElem?_replicate] at hi
  split at hi <;> simp at hi
def aA4 (P:Program) (md:Region.Mode) (ops:Array Oper) (n:Nat) (mem:Mem) (stop:Nat) (E:Array Bool→FS→Prop):Nat→Array Bool→FS→Prop
  | 0,listed,s=>(∀ i,i<stop→listed.getD i true=true)∧E listed s
  | fuel+1,listed,s=>(Region.ready md ops listed≠[])∧∀ i∈Region.ready md ops listed,gOp P ops n mem i (aA4 P md ops n mem stop E fuel (listed.setIfInBounds i true)) s
theorem aA0 (hf:Fit w0 p0) {stop r:Nat} {E:Array Bool→FS→Prop} {Q':Exit→Act→World→Prop} (hE:∀ listed s a w,aGw w0 p0 n mem s a w→E listed s→wpAny P md ops Q' r listed a w):∀ (fuel:Nat) (listed:Array Bool) (s:FS) (a:Act) (w:World),aGw w0 p0 n mem s a w →
    aA4 P md ops n mem stop E fuel listed s→wpAny P md ops Q' (fuel+r) listed a w
  | 0,listed,s,a,w,hr,h=>by rw[Nat.zero_add]; exact hE _ _ _ _ hr h.2
  | fuel+1,listed,s,a,w,hr,h=>by
    rw[show fuel+1+r=(fuel+r)+1 by omega]
    exact⟨fun h0=>absurd h0 h.1,fun i hi=>yJ hf hr (fun s' a' w' hr'=>aA0 hf hE fuel _ s' a' w' hr') (h.2 i hi)⟩
theorem aFn {stop:Nat} {E:Array Bool→FS→Prop} (ht:qR md ops stop=true) {i:Nat} {oi:Oper} {av:AV} (his:i<stop) (hi:ops[i]?=some oi) :
    ∀ (fuel:Nat) (listed:Array Bool) (s:FS),Closed md ops listed →
      (∀ j oj,ops[j]?=some oj→j≠i→listed.getD j true=false→(∀ e∈oj.after,Region.binds md e=true→e.on≠i)→oi.apart ops oj=true) →
      i∈Region.ready md ops listed→YieldsS P ops n mem oi av s →
      aA4 P md ops n mem stop E fuel (listed.setIfInBounds i true) (sI s oi.dst av)→aA4 P md ops n mem stop E (fuel+1) listed s:=by
  have early:∀ (listed:Array Bool),Closed md ops listed→i∈Region.ready md ops listed→∀ j∈Region.ready md ops listed,j<stop:=by
    intro listed hc hr j hj
    rcases Nat.lt_or_ge j stop with h | h
    · exact h
    · exfalso
      have h1:=aL5 ht hc hj h i his
      have h0:=(mem_ready.1 hr).1
      rcases Nat.lt_or_ge i listed.size with h' | h'
      · simp [h'] at h0 h1; rw[h0] at h1; cases h1
      · simp [Array.getElem?_eq_none h'] at h1
  intro fuel
  induction fuel with
  | zero =>
    intro listed s hc _ hr hy H
    refine⟨fun h=>(by rw[h] at hr; cases hr),fun j hj=>?_⟩
    by_cases hji:j=i
    · subst hji; exact hy.gOp hi H
    · exfalso
      have h1:=H.1 j (early listed hc hr j hj)
      rw[getD_set_ne true (Ne.symm hji)] at h1
      have h0:=(mem_ready.1 hj).1
      rw[h0] at h1; cases h1
  | succ fuel ih =>
    intro listed s hc hfree hr hy H
    refine⟨fun h=>(by rw[h] at hr; cases hr),fun j hj=>?_⟩
    by_cases hji:j=i
    · subst hji; exact hy.gOp hi H
    · have h1:=H.2 j (ready_mono hj hji)
      obtain ⟨hjun,oj,hoj,hall⟩:=mem_ready.1 hj
      have hnot:∀ e∈oj.after,Region.binds md e=true→e.on≠i:=fun e he hb heq=>by
        have h1:=hall e he hb
        have h0:=(mem_ready.1 hr).1
        rw[heq] at h1
        rcases Nat.lt_or_ge i listed.size with h' | h'
        · simp [h'] at h0 h1; rw[h0] at h1; cases h1
        · simp [Array.getElem?_eq_none h'] at h1
      have h2:=aOq hoj (hfree j oj hoj hji hjun hnot) hy h1
      have hfree':∀ k ok,ops[k]?=some ok→k≠i→(listed.setIfInBounds j true).getD k true=false →
          (∀ e∈ok.after,Region.binds md e=true→e.on≠i)→oi.apart ops ok=true:=fun k ok hk hki hun hno=>by
        refine hfree k ok hk hki ?_ hno
        by_cases hjk:j=k
        · subst hjk; exact hjun
        · rw[getD_set_ne true hjk] at hun; exact hun
      refine aI4 (fun s' h3=>ih (listed.setIfInBounds j true) s' (hc.set hj) hfree' (ready_mono hr (Ne.symm hji)) h3.1 ?_) h2
      rw[Array.setIfInBounds_comm _ _ hji]
      exact h3.2
def aF3 (md:Region.Mode) (ops:Array Oper):Nat→Nat→Array Bool→Bool
  | 0,_,_=>true
  | fuel+1,k,listed=>(Region.ready md ops listed).contains k&&Region.free md ops listed k&&aF3 md ops fuel (k+1) (listed.setIfInBounds k true)
def aAp:Nat→Nat→Array Bool→Array Bool
  | 0,_,listed=>listed
  | fuel+1,k,listed=>aAp fuel (k+1) (listed.setIfInBounds k true)
theorem aA3 {stop:Nat} {E:Array Bool→FS→Prop} (ht:qR md ops stop=true):∀ (l:List Oper) (k:Nat) (listed:Array Bool) (s:FS),(∀ j o,l[j]?=some o→ops[k+j]?=some o)→k+l.length=stop→Closed md ops listed→(∀ i,i<k→listed.getD i true=true) →
    aF3 md ops l.length k listed=true→pC P ops n mem (fun s=>E (aAp l.length k listed) s) l s→aA4 P md ops n mem stop E l.length listed s
  | [],k,listed,s,_,hk,_,hlt,_,h=>⟨fun i hi=>hlt i (by simpa [← hk] using hi),h⟩
  | o::l,k,listed,s,hl,hk,hc,hlt,hB,h=>by
    have h0:ops[k]?=some o:=by simpa using hl 0 o rfl
    simp only[List.length_cons,aF3,Bool.and_eq_true] at hB
    obtain ⟨⟨hr,hf⟩,hB'⟩:=hB
    obtain ⟨av,hy,hK⟩:=h
    have hr':k∈Region.ready md ops listed:=by simpa using hr
    refine aFn ht (by simp at hk; omega) h0 l.length listed s hc (Region.free_spec h0 hf) hr' hy ?_
    refine aA3 ht l (k+1) _ _ (fun j o' hj=>by have:=hl (j+1) o' (by simpa using hj); simpa [Nat.add_assoc,Nat.add_comm 1 j] using this) (by simp at hk; omega) (hc.set hr') (fun i hi=>?_) hB' hK
    by_cases hik:k=i
    · subst hik
      have hsz:k<listed.size∨listed.size≤k:=Nat.lt_or_ge _ _
      rcases hsz with h | h
      · simp [h]
      · simp [h]
    · rw[getD_set_ne true hik]; exact hlt i (by omega)
def aJi (ops:Array Oper) (stop:Nat):Bool:=qR .any ops stop&&aF3 .any ops stop 0 (Array.replicate ops.size false)
variable {sl:List (Nat×AV)} {m:Mem} {Q:Exit→St→Prop}
theorem iA (hf:Fit w0 p0) {id:Nat} {l:List Oper} {K:FS→Prop} {L:Array Bool} (stop r:Nat) (hm:P.follows .mixedOrders=true) (hB:aJi l.toArray stop=true) (hsz:l.length=stop+r) (hL:aAp stop 0 (Array.replicate l.toArray.size false)=L)
    (hK:K=fun s=>∃ σ':St,σ'.n=n∧σ'.mem=m∧jI (fun t=>some (s t)) σ'.slots∧kW σ'.slots=true∧oJ P w0 p0 l.toArray Q r L σ') (h:pC P l.toArray n m K (l.take stop) (fsl sl)):AW P w0 p0 (.region id l.toArray true) ⟨n,sl,m⟩ Q:=by
  subst hK
  intro a w ⟨h1,h2,p,hE,hs,hmem⟩
  refine wp_region_any hm ?_
  simp only[aJi,Bool.and_eq_true] at hB
  have hr:aGw w0 p0 n m (fsl sl) a { w with drawn:=w.drawn+1 }:=by
    have hg:Grow w { w with drawn:=w.drawn+1 }:=⟨rfl,⟨rfl,Nat.le_succ _⟩,rfl,Nat.le_refl _,fun _ _=>rfl⟩
    have hk:=hg.keeps hmem
    refine⟨h1,h2,p,hE.step hk hg.os hg.tape hg.output hg.size rfl (fun b hb _=>hg.heap b hb) (fun g h1 h2=>absurd h1 h2),fun t=>?_,⟨hmem.dom,fun g m hl=>(hmem.holds g m hl).keep hk fun _ _=>rfl,hmem.inj,hmem.avoid⟩⟩
    unfold fsl
    rw[kE]
    cases hl:bF sl t with
    | none=>exact .inl rfl
    | some b=>obtain ⟨v,hv,hrv⟩:=hs t b hl; exact .inr ⟨v,hv,hrv.keep hk⟩
  have hlen:(l.take stop).length=stop:=by simp; omega
  have key:=aA3 (P:=P) (n:=n) (mem:=m) (E:=fun listed (s:FS)=>listed=L∧∃ σ':St,σ'.n=n∧σ'.mem=m∧jI (fun t=>some (s t)) σ'.slots∧kW σ'.slots=true∧oJ P w0 p0 l.toArray Q r L σ') hB.1 (l.take stop) 0 (Array.replicate l.toArray.size false) (fsl sl)
    (fun j o hj=>by
      rw[List.getElem?_take] at hj
      split at hj
      · simpa using hj
      · cases hj) (by omega) aJr (by simp) (by rw[hlen]; exact hB.2) (by
      rw[hlen]
      have:(fun(s:FS)=>aAp stop 0 (Array.replicate l.toArray.size false)=L∧∃ σ':St,σ'.n=n∧σ'.mem=m∧jI (fun t=>some (s t)) σ'.slots∧kW σ'.slots=true∧oJ P w0 p0 l.toArray Q r L σ')=(fun(s:FS)=>∃ σ':St,σ'.n=n∧σ'.mem=m∧jI (fun t=>some (s t)) σ'.slots∧kW σ'.slots=true∧oJ P w0 p0 l.toArray Q r L σ'):=by
        funext s; exact propext ⟨fun h=>h.2,fun h=>⟨hL,h⟩⟩
      exact this ▸ h)
  rw[hlen] at key
  have:=aA0 hf (r:=r) (Q':=fun e a' w'=>∃ σ',Q e σ'∧Rel w0 p0 σ' a' w') (fun listed s a w hr hQ=>?_) stop _ _ a _ hr key
  · have e:l.toArray.size=stop+r:=by simpa using hsz
    rw[e] at this ⊢
    exact this
  · obtain ⟨rfl,σ',e1,e2,hc,hnb,hQ'⟩:=hQ
    obtain ⟨g1,g2,q,hE',hs',hm'⟩:=hr
    refine hQ' a w ⟨g1,by rw[e1]; exact g2,q,hE',fun t b hb=>?_,by rw[e2]; exact hm'⟩
    have hst:s t=b:=by simpa using lT hc t b hb
    rcases hs' t with h | ⟨v,hv,hrv⟩
    · rw[hst] at h
      subst h
      exact absurd hb (pA hnb t)
    · exact⟨v,hv,hst ▸ hrv⟩
theorem aRv {K:FS→Prop} {sl':List (Nat×AV)} {r:Nat} {L:Array Bool} (hK:K=fun s=>∃ σ':St,σ'.n=n∧σ'.mem=m∧jI (fun t=>some (s t)) σ'.slots∧kW σ'.slots=true∧oJ P w0 p0 ops Q r L σ') (hc:nF sl sl') (hnb:kW sl'=true) (h:oJ P w0 p0 ops Q r L ⟨n,sl',m⟩):pC P ops n m K [] (fsl sl):=by
  subst hK
  refine⟨⟨n,sl',m⟩,rfl,rfl,?_,hnb,h⟩
  have:∀ l,nF sl l→jI (fun t=>some (fsl sl t)) l:=by
    intro l
    induction l with
    | nil=>intro _; trivial
    | cons x r ih =>
      intro h
      obtain ⟨t,a⟩:=x
      exact⟨by simp [fsl,h.1],ih h.2⟩
  exact this sl' hc
def aOl (K:St→Prop):Exit→St→Prop:=fun e σ=>e=.normal∧K σ
theorem aJx {o:Oper} {σ:St} {K:St→Prop} (hg:o.guard=none) (h:eW P w0 p0 ops [o] σ (aOl K)):AOp P w0 p0 o σ K:=by
  intro a w next Q hr hn
  have h1:=h a w hr
  simp only[wpList] at h1
  rw[if_pos (by simp [Region.wanted,hg])] at h1
  have hno:¬ LetsOut (fun e a' w'=>∃ σ',aOl K e σ'∧Rel w0 p0 σ' a' w'):=fun⟨_,_,_,h,_⟩=>by cases h.1
  rcases h1 with h1 | h1
  · unfold Oper.wp at h1 ⊢
    generalize (execOp a.eval o).run P w=r at h1 ⊢
    cases r with
    | ok nx w' =>
      cases nx <;> simp only[Oper.upon,wpList] at h1 ⊢
      case value v=>obtain ⟨σ',h2,h3⟩:=h1; exact hn _ _ _ h2.2 h3
      case skip=>obtain ⟨σ',h2,h3⟩:=h1; exact hn _ _ _ h2.2 h3
      case defer=>obtain ⟨σ',h2,h3⟩:=h1; exact hn _ _ _ h2.2 h3
      case enter =>
        refine Calls.mono h1 (fun e w'' he=>?_)
        cases e with
        | returned v=>obtain ⟨σ',h2,h3⟩:=he; exact hn _ _ _ h2.2 h3
        | panicked c=>obtain ⟨σ',h2,h3⟩:=he; cases h2.1
        | outgrown=>exact absurd he hno
      case row=>exact Rows.mono h1 (fun v w'' ⟨σ',h2,h3⟩=>hn _ _ _ h2.2 h3)
    | halt x w' =>
      cases x <;> simp only[Oper.upon] at h1 ⊢
      obtain ⟨σ',h2,h3⟩:=h1; cases h2.1
  · exact absurd h1.2 hno
theorem aG {σ:St} {K:St→Prop} (h:K σ):eW P w0 p0 ops [] σ (aOl K):=bB ⟨rfl,h⟩
end Go.Abs
set_option linter.unusedVariables false
set_option linter.unusedSimpArgs false
namespace Go.Abs
open Go Go.RowKit
variable {P:Program} {w0:World} {p0:Hp}
variable {ops:Array Oper} {rest:List Oper} {n d ty:Nat} {ps:String} {af:Array Edge} {sl:List (Nat×AV)} {m:Mem} {Q:Exit→St→Prop}
def opne (d:Nat):Operand→Bool
  | .tmp t=>match Nat.beq d t with | true=>false | false=>true
  | _=>true
theorem aR8 {a:Act} {y:Operand} {d:Nat} {v:Value} (h:opne d y=true):(a.put (some d) v).eval y=a.eval y:=by
  cases y with
  | tmp t =>
    simp only[opne] at h
    split at h
    · cases h
    · rename_i hb
      have hne:d≠t:=fun e=>by subst e; simp at hb
      simp only[Act.eval,Act.put,Array.getD_eq_getD_getElem?]
      rw[Array.getElem?_setIfInBounds_ne hne]
  | const v=>rfl
  | func f=>rfl
  | global g=>rfl
theorem cH (hf:Fit w0 p0) {t t2 ty2:Nat} {ps2:String} {af2:Array Edge} {y:Operand} {zs:List Value} {c:Nat} {av:AV} {cs:List AV} (hd:lt d n=true) (hz:zeros? P t=some zs) (hzl:zs.length=c) (hn:cells? P t2=some c) (hy:ev sl y=some av) (hne:opne d y=true) (hcs:av.cells=cs) (hlen:cs.length=c) (h1:∀ c∈cs,c.leaf=true)
    (hk:eW P w0 p0 ops rest ⟨n,(d,.adr cs)::sl,m⟩ Q):eW P w0 p0 ops (⟨some d,.alloc t,ty,ps,af,none⟩::⟨none,.store t2 (.tmp d) y,ty2,ps2,af2,none⟩::rest) ⟨n,sl,m⟩ Q:=by
  subst hcs
  intro a w ⟨h2,h3,p,hE,hs,hm⟩
  obtain ⟨z,hz1,hz2⟩:=zeros?_inv hz w
  have hrun1:(execOp a.eval ⟨some d,.alloc t,ty,ps,af,none⟩).run P w=.ok (.value (.pointer (some ⟨w.heap.size,0,none⟩))) (w.alloc (.cells z.cells t)):=by
    simp [execOp,Instr.alloc,hz1,newVar,newRow]
  refine wpList_plain rfl fun K1 hK1=>?_
  unfold Oper.wp
  rw[hrun1]
  simp only[Oper.upon]
  refine hK1 _ _ ?_
  refine wpList_plain rfl fun K2 hK2=>?_
  have hdn:d<a.tmps.size:=by rw[h3]; exact oF hd
  have ed:(a.put (some d) (.pointer (some ⟨w.heap.size,0,none⟩))).eval (.tmp d)=.pointer (some ⟨w.heap.size,0,none⟩):=by
    simp [Act.eval,Act.put,hdn]
  have ey:(a.put (some d) (.pointer (some ⟨w.heap.size,0,none⟩))).eval y=a.eval y:=aR8 hne
  have hzsz:z.cells.size=c:=by rw[← hzl,← hz2]; simp
  have hrv:RelV w p av (a.eval y):=(cO (n:=n) (m:=m) hy) ▸ dP hs y
  obtain ⟨hl,hc⟩:=hrv.cells (fun c hc=>AV.one_of_leaf (h1 c hc))
  have hone:∀ u∈(a.eval y).cells.toList,u.oneCell'=true:=by
    intro u hu
    obtain ⟨i,hi⟩:=List.getElem?_of_mem hu
    have hlt:=(List.getElem?_eq_some_iff.1 hi).1
    have hlt':i<av.cells.length:=by simp at hlt; omega
    obtain ⟨u',hu',hr'⟩:=hc i _ (List.getElem?_eq_getElem hlt')
    simp only[Array.getElem?_toList] at hi
    rw[hi] at hu'; cases hu'
    exact hr'.one (AV.one_of_leaf (h1 _ (List.getElem_mem hlt')))
  have hnew:=heap_alloc_new w (.cells z.cells t)
  have hst:=run_storeCells_at P w.heap.size 0 t (a.eval y).cells.toList 0 z.cells (w.alloc (.cells z.cells t)) hnew (by simp; omega) hone
  generalize hcs:(z.cells.toList.take (0+0)++(a.eval y).cells.toList++z.cells.toList.drop (0+0+(a.eval y).cells.toList.length)).toArray=cs at hst
  have hcsv:cs=(a.eval y).cells:=by
    rw[← hcs]
    have:(z.cells.toList.drop (0+0+(a.eval y).cells.toList.length))=[]:=by
      rw[List.drop_eq_nil_iff]; simp; omega
    rw[this]; simp
  have hsz2:(a.eval y).cells.size=c:=by omega
  have hrun2:(execOp (a.put (some d) (.pointer (some ⟨w.heap.size,0,none⟩))).eval ⟨none,.store t2 (.tmp d) y,ty2,ps2,af2,none⟩).run P (w.alloc (.cells z.cells t))=.ok .skip ((w.alloc (.cells z.cells t)).setRow w.heap.size cs):=by
    simp [execOp,ed,ey,Instr.storeAt,Instr.sureAddr,storeVar,eC hn,hsz2,hst]
  unfold Oper.wp
  rw[hrun2]
  simp only[Oper.upon]
  refine hK2 _ _ ?_
  have hw'sz:((w.alloc (.cells z.cells t)).setRow w.heap.size cs).heap.size=w.heap.size+1:=by simp [World.setRow]
  have hbk:((w.alloc (.cells z.cells t)).setRow w.heap.size cs).heap[w.heap.size]?=some (.cells cs t (0,0)):=setRow_heap _ w.heap.size z.cells cs t _ hnew
  have hg:Grow w ((w.alloc (.cells z.cells t)).setRow w.heap.size cs):=⟨rfl,⟨rfl,Nat.le_refl _⟩,rfl,by rw[hw'sz]; omega,fun b hb=>by
    rw[setRow_other _ w.heap.size b cs (by omega)]
    exact Below.heap_alloc w _ b hb⟩
  generalize hw':(w.alloc (.cells z.cells t)).setRow w.heap.size cs=w' at hg hbk hw'sz ⊢
  have hkp:=hg.keeps hm
  have hAb:∀ b,p.A b→b<w.heap.size:=fun b hb=>Nat.lt_of_lt_of_le (hf.others b (hE.A ▸ hb)) hE.size
  have hstab:Stable w' p w.heap.size:=⟨by rw[hw'sz]; omega,fun g hgb=>Nat.lt_irrefl _ (hm.lt hgb),fun hA=>Nat.lt_irrefl _ (hAb _ hA)⟩
  refine hk _ w' ⟨h2,by simpa [Act.put] using h3,p,hE.step hkp hg.os hg.tape hg.output hg.size rfl (fun b hb _=>hg.heap b hb) (fun g h1 h2=>absurd h1 h2),?_,⟨hm.dom,fun g m hl=>(hm.holds g m hl).keep hkp fun b hb=>hg.heap b (hm.lt hb),hm.inj,hm.avoid⟩⟩
  have hadr:RelV w' p (.adr av.cells) (.pointer (some ⟨w.heap.size,0,none⟩)):=by
    refine .adr _ w.heap.size 0 (fun i=>((a.eval y).cells[i]?).getD undef) hstab h1 (fun i c hi=>?_) (fun i c hi=>?_)
    · obtain ⟨u,hu,hr⟩:=hc i c hi
      rw[Nat.zero_add,gO hbk,hcsv,hu]; rfl
    · obtain ⟨u,hu,hr⟩:=hc i c hi
      rw[hu]; exact hr.keep hkp
  exact(hs.keep hkp).put hdn hadr
end Go.Abs
set_option linter.unusedVariables false
set_option linter.unusedSimpArgs false
namespace Go.Abs
open Go Go.RowKit
variable {P:Program} {w0:World} {p0:Hp}
def G0:Nat:=1000000
structure Took (w:World) (x:Option Nat) (w':World):Prop where
  os:w'.os=w.os
  tape:w'.tape=w.tape∧w.drawn≤w'.drawn
  output:w'.output=w.output
  size:w.heap.size≤w'.heap.size
  same:∀ b,b<w.heap.size→x≠some b→w'.heap[b]?=w.heap[b]?
def DenR (P:Program) (f:Nat) (args:List AV) (k:Nat) (xs:List (List AV)) (Q:List (List AV)→Prop):Prop :=
  ∀ (A:Nat→Prop) (w:World) (x:Option Nat) (vals:List Value),(∀ b,A b→b<w.heap.size)→(∀ b,x=some b→¬ A b)→RelL w (eL x A) args vals→AMRel w (eL x A) E0 (.buf k xs) →
    Calls P f vals.toArray w (fun e w'=>∃ v ys x',e=.returned v∧Q ys∧Took w x w'∧(∀ b,x'=some b→x=some b∨w.heap.size≤b)∧AMRel w' (eL x' A) E0 (.buf k ys)∧RelV w' (eL x' A) (.own E0 k 0 ys.length) v)
theorem DenR.mono {f:Nat} {args:List AV} {k:Nat} {xs:List (List AV)} {Q Q':List (List AV)→Prop} (h:DenR P f args k xs Q) (hq:∀ ys,Q ys→Q' ys):DenR P f args k xs Q' :=
  fun A w x vals h1 h2 h3 h4=>(h A w x vals h1 h2 h3 h4).mono fun e w' ⟨v,ys,x',e1,e2,e3⟩=>⟨v,ys,x',e1,hq _ e2,e3⟩
def named (x:Option Nat) (A:Nat→Prop):Hp:={ o:=fun g=>if g=G0 then some x else none,A:=A }
theorem wM {x:Option Nat} {A:Nat→Prop} {g:Nat} {y:Option Nat} (h:(named x A).o g=some y):g=G0∧x=y:=by
  simp only[named] at h
  split at h
  · rename_i e; cases h; exact⟨e,rfl⟩
  · cases h
theorem aPs (x:Option Nat) (A:Nat→Prop):(named x A).but G0=A:=by
  funext b
  refine propext ⟨fun h=>?_,fun h=>.inl h⟩
  rcases h with h | ⟨g,hg,h⟩
  · exact h
  · exact absurd (wM h).1 hg
theorem aM3 {f:Nat} {fn:Func} {c:Code} {args args':List AV} {k:Nat} {xs:List (List AV)} {Q:List (List AV)→Prop} (hf:P.funcs[f]?=some fn) (hb:fn.body=some c) (hn:args.length≤fn.ntmps) (hargs:args.map (AV.fromE G0)=args')
    (h:∀ w0 x A,Fit w0 (eL x A)→AW P w0 (eL x A) c ⟨fn.ntmps,gB 0 args',[(G0,.buf k xs)]⟩ (retO P fn k Q)):DenR P f args k xs Q:=by
  subst hargs
  intro A w x vals hA hx hr hbuf
  refine calls_of_wp hf hb ?_
  have hfit:Fit w (eL x A):=⟨fun g hg=>by simp [eL]; omega,hA⟩
  have hxn:(named x A).o G0=some x:=by simp [named]
  have hbut:eL x ((named x A).but G0)=eL x A:=by rw[aPs]
  have hrel:Rel w (eL x A) ⟨fn.ntmps,gB 0 (args.map (AV.fromE G0)),[(G0,.buf k xs)]⟩ { tmps:=vals.toArray++Array.replicate (fn.ntmps - vals.toArray.size) undef,defers:=[] } w:=by
    refine⟨rfl,by have:=hr.1; simp; omega,named x A,⟨rfl,⟨rfl,Nat.le_refl _⟩,rfl,Nat.le_refl _,rfl,fun b hb=>⟨⟨hb.1,fun g hg=>?_,hb.2.2⟩,rfl⟩,fun _ _ _=>rfl,fun g y hg=>?_⟩,fun t a ht=>?_,⟨fun g hl=>?_,fun g m hl=>?_,fun g g' b h1 h2=>?_,fun g b h=>?_⟩⟩
    · have:=(wM hg).2
      exact hb.2.1 E0 (by rw[eE,this])
    · have:=(fX hg).1
      subst this
      exact .inl (by simp [named,E0,G0])
    · obtain ⟨_,ht⟩:=iX _ 0 t a ht
      simp only[Nat.sub_zero] at ht
      rw[List.getElem?_map] at ht
      cases hi:args[t]? with
      | none=>simp [hi] at ht
      | some c' =>
        simp [hi] at ht; subst ht
        have hlt:t<vals.length:=by rw[← hr.1]; exact(List.getElem?_eq_some_iff.1 hi).1
        refine⟨vals[t]'hlt,by rw[Array.getElem?_append_left (by simpa using hlt)]; simp [hlt],?_⟩
        have:=hr.2 t c' (vals[t]'hlt) hi (by simp [hlt])
        rw[← hbut] at this
        exact this.fromE hxn
    · simp only[bF] at hl
      split at hl
      · cases hl
      · rename_i hne; simp only[named]; rw[if_neg (fun e=>hne e.symm)]
    · simp only[bF] at hl
      split at hl
      · rename_i e; subst e; cases hl
        rw[← hbut] at hbuf
        exact hbuf.fromE hxn
      · cases hl
    · exact(wM h1).1.trans (wM h2).1.symm
    · exact hx b (wM h).2
  refine wp_mono (h w x A hfit _ w hrel) ?_
  rintro e a' w' ⟨σ',hq,h1,h2,p,hE,hs,hm⟩
  have fin:(∃ g ys,g<E0∧bF σ'.mem g=some (.buf k ys)∧vP P fn σ'=some (.own g k 0 ys.length)∧Q ys)→a'.defers=[]∧∃ v,(results fn a'.tmps).run P w'=.ok v w' ∧
      ∃ v' ys x',Ending.returned v=.returned v'∧Q ys∧Took w x w'∧(∀ b,x'=some b→x=some b∨w.heap.size≤b)∧AMRel w' (eL x' A) E0 (.buf k ys)∧RelV w' (eL x' A) (.own E0 k 0 ys.length) v':=by
    rintro ⟨g,ys,hgE,hl,hres,hQ⟩
    obtain ⟨v,hv,hrv⟩:=tG hs hm _ hres
    obtain ⟨x',hx'⟩:∃ x',p.o g=some x':=by
      rcases hm.holds g _ hl with h | ⟨b,cur,T,h,_⟩
      · exact⟨_,h.2⟩
      · exact⟨_,h⟩
    have hpA:p.A=A:=hE.A
    have hmv:∀ b,Stable w' p b→Stable w' (eL x' A) b:=fun b hb=>⟨hb.1,fun g' hg'=>by have:=(fX hg').2; subst this; exact hb.2.1 g hx',hpA ▸ hb.2.2⟩
    refine⟨h1,v,hv,v,ys,x',rfl,hQ,⟨hE.os,hE.tape,hE.output,hE.size,fun b hb hxb=>?_⟩,?_,?_,?_⟩
    · by_cases hAb:A b
      · exact hE.others b hb hAb
      · exact(hE.stab b ⟨hb,fun g' hg'=>hxb (fX hg').2,hAb⟩).2
    · rintro b rfl
      by_cases hb:b<w.heap.size
      · left
        by_cases hxb:x=some b
        · exact hxb
        · exfalso
          by_cases hAb:A b
          · exact hm.avoid g b hx' (hpA ▸ hAb)
          · exact(hE.stab b ⟨hb,fun g' hg'=>hxb (fX hg').2,hAb⟩).1.2.1 g hx'
      · right; omega
    · rcases hm.holds g _ hl with ⟨e1,e2⟩ | ⟨b,cur,T,h1,h2,h3,h4,h5⟩
      · rw[hx'] at e2; cases e2; exact .inl ⟨e1,eE _ _⟩
      · rw[hx'] at h1; cases h1
        refine .inr ⟨b,cur,T,eE _ _,h2,h3,h4,fun j y i c hy hc=>?_⟩
        obtain ⟨u,hu,hr⟩:=h5 j y i c hy hc
        exact⟨u,hu,hr.move (ok:=fun _=>false) (fun b hb=>⟨hmv b hb,rfl⟩) (fun _ _ h _=>by cases h) (AV.clean_of_leaf ((h4 y (List.mem_of_getElem? hy)).2 c (List.mem_of_getElem? hc)))⟩
    · generalize ys.length=n at hrv ⊢
      cases hrv with
      | ownn _ _ hg=>rw[hx'] at hg; cases hg; exact .ownn _ _ (eE _ _)
      | own _ _ _ _ _ _ _ _ hg e1 e2 e3 e4=>rw[hx'] at hg; cases hg; exact .own _ _ _ _ _ _ _ _ (eE _ _) e1 e2 e3 e4
      | own0 _ _ _ _ _ hg=>rw[hx'] at hg; cases hg; exact .own0 _ _ _ _ _ (eE _ _)
  cases e with
  | normal=>exact fin hq
  | ret=>exact fin hq
  | _=>exact hq.elim
theorem aQo {o:Oper} {σ:St} {K:St→Prop} (hf:Fit w0 p0) {fo:Operand} {xs:List Operand} {ts:Array TypeId} {f g k d:Nat} {cap args:List AV} {ys:List (List AV)} {Q:List (List AV)→Prop}
    (ho:o.op=.call { callee:=.value fo,args:=xs.toArray,argTypes:=ts }) (hdst:o.dst=some d) (hd:d<σ.n) (hgE:g<E0)
    (hent:∀ args w,(callFunc f args).run P w=.ok (.enter f args) w) (hfo:σ.ev fo=.fn f cap) (hg:bF σ.mem g=some (.buf k ys)) (hargs:(xs.map σ.ev++cap).map (AV.toE g)=args)
    (hden:DenR P f args k ys Q) (hK:∀ zs,Q zs→K ⟨σ.n,(d,.own g k 0 zs.length)::lP g σ.slots,(g,.buf k zs)::oI g σ.mem⟩):AOp P w0 p0 o σ K:=by
  intro a w next Q' ⟨h1,h2,p,hE,hs,hm⟩ hn
  obtain ⟨vals,hrun,hrel⟩:=pJ (P:=P) ho hent hs hfo
  unfold Oper.wp
  rw[hrun]
  simp only[Oper.upon]
  obtain ⟨x,hx⟩:∃ x,p.o g=some x:=by
    rcases hm.holds g _ hg with h | ⟨b,cur,T,h,_⟩
    · exact⟨_,h.2⟩
    · exact⟨_,h⟩
  have hA:∀ b,p.but g b→b<w.heap.size:=fun b hb=>by
    rcases hb with hb | ⟨g',_,hg'⟩
    · exact Nat.lt_of_lt_of_le (hf.others b (hE.A ▸ hb)) hE.size
    · exact hm.lt hg'
  have hxA:∀ b,x=some b→¬ p.but g b:=by
    rintro b rfl (h | ⟨g',h1,h2⟩)
    · exact hm.avoid g b hx h
    · exact h1 (hm.inj g' g b h2 hx)
  refine(hden (p.but g) w x vals hA hxA ?_ ((hm.holds g _ hg).toE hx)).mono ?_
  · rw[← hargs]
    refine⟨by simpa using hrel.1,fun i c v hc hv=>?_⟩
    rw[List.getElem?_map] at hc
    cases hi:(xs.map σ.ev++cap)[i]? with
    | none=>simp [hi] at hc
    | some c'=>simp [hi] at hc; subst hc; exact(hrel.2 i c' v hi hv).toE hx
  · rintro e w' ⟨v,zs,x',rfl,hQ,hT,hx',hb',hr⟩
    have hp0:p0.o g=none:=hf.names g hgE
    have hsame:∀ b,b<w.heap.size→x≠some b→w'.heap[b]?=w.heap[b]?:=hT.same
    have hnx:∀ b,Stable w p b→x≠some b:=fun b hb e=>hb.2.1 g (by rw[hx,e])
    have hstq:∀ b,Stable w p b→Stable w' (p.upd g (some x')) b:=fun b hb=>⟨Nat.lt_of_lt_of_le hb.1 hT.size,fun g' hg'=>by
      simp only[Hp.upd] at hg'
      split at hg'
      · cases hg'
        rcases hx' b rfl with e | e
        · exact hnx b hb e
        · exact absurd hb.1 (by omega)
      · exact hb.2.1 g' hg',hb.2.2⟩
    have hoth:∀ g' b,g'≠g→p.o g'=some (some b)→x≠some b:=fun g' b hne hb e=>hne (hm.inj g' g b hb (by rw[hx,e]))
    have hmv:∀ a v,RelV w p a v→a.clean (fun x=>x != g)=true→RelV w' (p.upd g (some x')) a v:=fun a v hr hc =>
      hr.move (ok:=fun x=>x != g) (fun b hb=>⟨hstq b hb,hsame b hb.1 (hnx b hb)⟩) (fun g' y hok hy=>by
        have hne:g'≠g:=by simpa using hok
        refine⟨by simp only[Hp.upd]; rw[if_neg hne]; exact hy,fun b hb cur T hh=>⟨cur,?_,rfl⟩⟩
        subst hb
        rw[hsame b (hm.lt hy) (hoth g' b hne hy)]; exact hh) hc
    have hE':Ext w0 p0 w' (p.upd g (some x')):=by
      refine⟨hT.os.trans hE.os,⟨hT.tape.1.trans hE.tape.1,Nat.le_trans hE.tape.2 hT.tape.2⟩,hT.output.trans hE.output,Nat.le_trans hE.size hT.size,hE.A,fun b hb=>?_,fun b hb hAb=>?_,fun g' y hy=>?_⟩
      · have hst:=(hE.stab b hb).1
        exact⟨hstq b hst,by rw[hsame b hst.1 (hnx b hst)]; exact(hE.stab b hb).2⟩
      · have:x≠some b:=fun e=>hm.avoid g b (by rw[hx,e]) (hE.A ▸ hAb)
        rw[hsame b (Nat.lt_of_lt_of_le hb hE.size) this]; exact hE.others b hb hAb
      · have hne:g'≠g:=fun e=>by rw[e,hp0] at hy; cases hy
        simp only[Hp.upd]
        rw[if_neg hne]
        rcases hE.name g' y hy with h | ⟨h,h'⟩
        · exact .inl h
        · refine .inr ⟨h,fun b hb cur T hh=>?_⟩
          obtain ⟨c1,e1,s1⟩:=h' b hb cur T hh
          subst hb
          exact⟨c1,by rw[hsame b (hm.lt h) (hoth g' b hne h)]; exact e1,s1⟩
    have hqg:(p.upd g (some x')).o g=some x':=by simp [Hp.upd]
    have hbq:eL x' ((p.upd g (some x')).but g)=eL x' (p.but g):=by
      congr 1
      funext b
      refine propext ⟨?_,?_⟩
      · rintro (h | ⟨g',hne,h⟩)
        · exact .inl h
        · simp only[Hp.upd] at h; rw[if_neg hne] at h; exact .inr ⟨g',hne,h⟩
      · rintro (h | ⟨g',hne,h⟩)
        · exact .inl h
        · exact .inr ⟨g',hne,by simp only[Hp.upd]; rw[if_neg hne]; exact h⟩
    rw[← hbq] at hb' hr
    have hAM:=hb'.fromE hqg
    have hrv:=hr.fromE hqg
    simp only[AV.fromE,if_pos] at hrv
    refine hn _ _ _ (hK zs hQ) ?_
    rw[hdst]
    refine rS h1 h2 hs hm g hE' hmv (fun g' hne=>by simp only[Hp.upd]; rw[if_neg hne]) (fun b g' hne hb=>hsame b (hm.lt hb) (hoth g' b hne hb)) hAM (fun g' b hne hb hb2=>?_) (fun b hb hAb=>?_) rfl hd hrv
    · rw[hqg] at hb; cases hb
      rcases hx' b rfl with e | e
      · exact hoth g' b hne hb2 e
      · have:=hm.lt hb2; omega
    · rw[hqg] at hb; cases hb
      rcases hx' b rfl with e | e
      · exact hm.avoid g b (by rw[hx,e]) hAb
      · have:=hA b (.inl hAb); omega
section
variable {n:Nat} {sl:List (Nat×AV)} {m:Mem} {ops:Array Oper} {rest:List Oper} {Q:Exit→St→Prop} {d ty:Nat} {ps:String} {af:Array Edge}
theorem y_callR (hf:Fit w0 p0) {fo:Operand} {xs:List Operand} {ts:Array TypeId} {f:Nat} (g:Nat) {k:Nat} {cap args args':List AV} {ys:List (List AV)} {R:List (List AV)→Prop} (hd:lt d n=true) (hgE:lt g E0=true) (hfo:ev sl fo=some (.fn f cap)) (hargs:evs sl cap xs=some args)
    (hg:lk m g=some (.buf k ys)) (hto:args.map (AV.toE g)=args')
    (hent:∀ args w,(callFunc f args).run P w=.ok (.enter f args) w) (hden:DenR P f args' k ys R) (hk:∀ zs,R zs→eW P w0 p0 ops rest ⟨n,(d,.own g k 0 zs.length)::lP g sl,(g,.buf k zs)::oI g m⟩ Q) :
    eW P w0 p0 ops (⟨some d,.call { callee:=.value fo,args:=xs.toArray,argTypes:=ts },ty,ps,af,none⟩::rest) ⟨n,sl,m⟩ Q :=
  fD rfl (aQo hf rfl rfl (oF hd) (oF hgE) hent (cO hfo) (by rw[← kE]; exact hg) (by rw[rX hargs]; exact hto) hden hk)
end
end Go.Abs
set_option linter.unusedVariables false
set_option linter.unusedSimpArgs false
namespace Go.Abs
open Go Go.RowKit
variable {P:Program} {w0:World} {p0:Hp}
def gX (P:Program) (o:Oper) (σ:St) (av:AV):Prop :=
  ∀ (act:Act) (w:World) (p:Hp),SlotsRel w p σ.slots act.tmps→MemRel w p σ.mem→∃ v,(∀ w2,(execOp act.eval o).run P w2=.ok (.value v) w2)∧RelV w p av v
theorem rP {σ:St} {act:Act} {w:World} (w2:World) {p:Hp} (hs:SlotsRel w p σ.slots act.tmps) {x:Operand} {d n y:Nat} (h:bnd σ d (some x)=some n) (hy:n≤y) (code:BoundsCode) :
    (Instr.sliceBound (act.eval x) y code).run P w2=.ok n w2:=by
  simp only[bnd] at h
  split at h
  · rename_i k i hx
    split at h
    · rename_i h0
      cases h
      have hle:i≤(y:Int):=by omega
      simp [Instr.sliceBound,nQ hs hx,asIntOf,h0,hle]
    · cases h
  · cases h
theorem aHh {σ:St} {act:Act} {w:World} (w2:World) {p:Hp} (hs:SlotsRel w p σ.slots act.tmps) {lo hi:Option Operand} {len cap l h:Nat} (hl:bnd σ 0 lo=some l) (hh:bnd σ len hi=some h) (h1:l≤h) (h2:h≤cap) :
    (Instr.sliceBounds true len cap (lo.map act.eval) (hi.map act.eval) none).run P w2=.ok (l,h,cap) w2:=by
  cases lo with
  | none =>
    have e1:l=0:=by simpa [bnd] using hl.symm
    subst e1
    cases hi with
    | none =>
              have e2:h=len:=by simpa [bnd] using hh.symm
              subst e2; simp [Instr.sliceBounds]
    | some y=>simp [Instr.sliceBounds,rP w2 hs hh h2]
  | some x =>
    cases hi with
    | none =>
              have e2:h=len:=by simpa [bnd] using hh.symm
              subst e2; simp [Instr.sliceBounds,rP w2 hs hl h1]
    | some y=>simp [Instr.sliceBounds,rP w2 hs hh h2,rP w2 hs hl h1]
-- aEv
theorem aL3 {o:Oper} {σ:St} {x:Operand} (ho:o.op=.move x):gX P o σ (σ.ev x) :=
  fun act w p hs _=>⟨act.eval x,fun w2=>by simp [execOp,ho],dP hs x⟩
-- yS
theorem aO1 {o:Oper} {σ:St} {op:BinOp} {t yt:TypeId} {x y:Operand} {u v r:Value} (ho:o.op=.binOp op t x y yt) (hx:σ.ev x=.s u) (hy:σ.ev y=.s v)
    (h:tH P op t u v=some r):gX P o σ (.s r):=by
  intro act w p hs _
  refine⟨r,?_,.s r⟩
  have e1:=nQ hs hx
  have e2:=nQ hs hy
  intro w2
  have:=aJz (P:=P) h x y w2
  simp only[execOp,ho,e1,e2]
  rw[Sem.run_bind,this]
  simp
-- aH0
theorem vB {o:Oper} {σ:St} {x i:Operand} {t e:TypeId} {k:Nat} {xs:List (List AV)} {c:List AV} {kd:IntKind} {n:Int} (ho:o.op=.indexAddr t x i) (ht:elem? P t=some e) (hk:cells? P e=some k)
    (hx:σ.ev x=.sl k xs) (hi:σ.ev i=.s (.int kd n)) (hn:0≤n∧xs[n.toNat]?=some c):gX P o σ (.adr c):=by
  intro act w p hs _
  have h1:=dP hs x
  rw[hx] at h1
  have e2:=nQ hs hi
  obtain ⟨h0,hc⟩:=hn
  have hlt:n.toNat<xs.length:=(List.getElem?_eq_some_iff.1 hc).1
  generalize hv:act.eval x=v at *
  cases h1 with
  | sln=>simp at hlt
  | slc _ _ b off cap f hb hn' hcap hkk hcc hr =>
    refine⟨.pointer (some ⟨b,off+n.toNat*k,none⟩),?_,.adr c b (off+n.toNat*k) (f n.toNat) hb ((hkk c (List.mem_of_getElem? hc)).2) (fun j y hy=>?_) (fun j y hy=>hr _ _ j y hc hy)⟩
    · intro w2
      have:n<(xs.length:Int):=by omega
      simp [execOp,ho,hv,e2,Instr.indexAt,asIntOf,run_underlying (elem?_inv ht),h0,this,eC hk,jX]
    · exact hcc _ _ j y hc hy
-- oX
theorem uO {o:Oper} {σ:St} {x:Operand} {t u:TypeId} {f off n:Nat} {cs:List AV} (ho:o.op=.fieldAddr t x f) (ht:field? P t f=some (off,u)) (hu:cells? P u=some n) (h0:n≠0)
    (hx:σ.ev x=.adr cs):gX P o σ (.adr (cs.drop off)):=by
  intro act w p hs _
  obtain ⟨fs,fd,e1,e2,rfl,rfl⟩:=field?_inv ht
  have h1:=dP hs x
  rw[hx] at h1
  generalize hv:act.eval x=v at *
  cases h1 with
  | adr _ b off f hb hkk hcc hr =>
    refine⟨.pointer (some ⟨b,off+fd.offset,none⟩),fun w2=>by simp [execOp,ho,hv,Instr.fieldAt,Instr.sureAddr,run_underlying e1,e2,mF hu h0,jX],.adr _ b _ (fun i=>f (fd.offset+i)) hb (fun c hc=>hkk c (List.mem_of_mem_drop hc)) (fun i c hi=>?_) (fun i c hi=>?_)⟩
    · rw[List.getElem?_drop] at hi
      rw[Nat.add_assoc]; exact hcc _ c hi
    · rw[List.getElem?_drop] at hi
      exact hr _ c hi
-- oW
theorem uN {o:Oper} {σ:St} {x:Operand} {t u:TypeId} {f off n:Nat} {g k j i:Nat} (ho:o.op=.fieldAddr t x f) (ht:field? P t f=some (off,u)) (hu:cells? P u=some n) (h0:n≠0)
    (hx:σ.ev x=.ref g k j i):gX P o σ (.ref g k j (i+off)):=by
  intro act w p hs _
  obtain ⟨fs,fd,e1,e2,rfl,rfl⟩:=field?_inv ht
  have h1:=dP hs x
  rw[hx] at h1
  generalize hv:act.eval x=v at *
  cases h1 with
  | ref _ _ _ _ b hg =>
    refine⟨.pointer (some ⟨b,j*k+(i+fd.offset),none⟩),fun w2=>by simp [execOp,ho,hv,Instr.fieldAt,Instr.sureAddr,run_underlying e1,e2,mF hu h0,jX,Nat.add_assoc],.ref _ _ _ _ b hg⟩
-- oV
theorem uM {o:Oper} {σ:St} {x i:Operand} {t e:TypeId} {g k off m:Nat} {kd:IntKind} {n:Int} (ho:o.op=.indexAddr t x i) (ht:elem? P t=some e) (hk:cells? P e=some k)
    (hx:σ.ev x=.own g k off m) (hi:σ.ev i=.s (.int kd n)) (hn:0≤n∧n<m):gX P o σ (.ref g k (off+n.toNat) 0):=by
  intro act w p hs _
  have h1:=dP hs x
  rw[hx] at h1
  have e2:=nQ hs hi
  obtain ⟨h0,hlt⟩:=hn
  generalize hv:act.eval x=v at *
  cases h1 with
  | ownn=>omega
  | own0=>omega
  | own _ _ _ _ b cap cur T hg hnc hcap hh hsz =>
    refine⟨.pointer (some ⟨b,off*k+n.toNat*k,none⟩),?_,?_⟩
    · intro w2
      simp [execOp,ho,hv,e2,Instr.indexAt,asIntOf,run_underlying (elem?_inv ht),h0,hlt,eC hk,jX]
    · have:off*k+n.toNat*k=(off+n.toNat)*k+0:=by rw[Nat.add_mul]; rfl
      rw[this]; exact .ref _ _ _ _ b hg
-- yR
theorem zU {o:Oper} {σ:St} {x:Operand} {lo hi:Option Operand} {t e g k off n l h:Nat} (ho:o.op=.slice t x lo hi none) (ht:elem? P t=some e) (hk:cells? P e=some k)
    (hx:σ.ev x=.own g k off n) (hl:bnd σ 0 lo=some l) (hh:bnd σ n hi=some h) (h1:l≤h) (h2:h≤n):gX P o σ (.own g k (off+l) (h - l)):=by
  intro act w p hs _
  have hr:=dP hs x
  rw[hx] at hr
  obtain ⟨a,cap,hv,hn,hrel⟩:=rV hr (m:=0) h1 h2
  obtain ⟨a',cap',hv',_,hrel'⟩:=rV hr (m:=cap) h1 h2
  rw[hv] at hv'; cases hv'
  have hb:=fun w2=>aHh (P:=P) w2 hs hl hh h1 (Nat.le_trans h2 hn)
  refine⟨_,?_,hrel' (Nat.le_trans h2 hn) (Nat.le_refl _)⟩
  intro w2
  simp [execOp,ho,hv,Instr.sliceAt,Instr.slice,run_underlying (elem?_inv ht),hb w2,eC hk]
theorem aNc {ops:Array Oper} {Q:Exit→St→Prop} {fuel:Nat} {listed:Array Bool} {σ:St} {o:Oper} {d:Nat} {av:AV} (i:Nat) (hi:ops[i]?=some o) (hns:Region.noSelect ops=true) (hr:(Region.ready .any ops listed).contains i=true) (hfree:Region.free .any ops listed i=true)
    (hg:o.guard=none) (hdst:o.dst=some d) (hd:d<σ.n) (hQ:∀ c σ,¬ Q (.panic c) σ) (hp:gX P o σ av) (h:oJ P w0 p0 ops Q fuel (listed.setIfInBounds i true) (σ.put d av)):oJ P w0 p0 ops Q (fuel+1) listed σ:=by
  intro a w hrel
  obtain ⟨h1,h2,p,hE,hs,hm⟩:=hrel
  obtain ⟨v,hrun,hrv⟩:=hp a w p hs hm
  have hput:Rel w0 p0 (σ.put d av) (a.put (some d) v) w:=Rel.putO (σ:=σ) ⟨h1,h2,p,hE,hs,hm⟩ (some d) (fun x hx=>by cases hx; exact hd) av v (fun q hE' hs' hm'=>?_)
  · refine wpAny_first hi (Region.noSelect_spec hns) (fun c a w hq=>?_) fuel listed a w (Region.free_spec hi hfree) (by simpa using hr) (v:=v) (.inl ⟨by simp [Region.wanted,hg],hrun⟩) ?_
    · obtain ⟨σ',h,_⟩:=hq; exact absurd h (hQ c σ')
    · rw[hdst]; exact h _ _ hput
  · obtain ⟨v',hrun',hrv'⟩:=hp a w q hs' hm'
    have:=(hrun w).symm.trans (hrun' w)
    cases this
    exact hrv'
section
variable {n d ty:Nat} {ps:String} {af:Array Edge} {gd:Option (Nat×Bool)} {sl:List (Nat×AV)} {m:Mem}
theorem dO {x:Operand} {a:AV} (hx:ev sl x=some a):gX P ⟨some d,.move x,ty,ps,af,gd⟩ ⟨n,sl,m⟩ a:=cO (n:=n) (m:=m) hx ▸ aL3 rfl
theorem w_bin {op:BinOp} {t yt:TypeId} {x y:Operand} {u v r:Value} (hx:ev sl x=some (.s u)) (hy:ev sl y=some (.s v)) (h:tH P op t u v=some r):gX P ⟨some d,.binOp op t x y yt,ty,ps,af,gd⟩ ⟨n,sl,m⟩ (.s r):=aO1 rfl (cO hx) (cO hy) h
theorem aEg {t yt:TypeId} {x y:Operand} {a b:Int} (hx:ev sl x=some (.s (.int .i64 a))) (hy:ev sl y=some (.s (.int .i64 b))) (h1:-9223372036854775808≤a+b) (h2:a+b≤9223372036854775807):gX P ⟨some d,.binOp .add t x y yt,ty,ps,af,gd⟩ ⟨n,sl,m⟩ (.s (.int .i64 (a+b))) :=
  w_bin hx hy (by simp [tH,yE,wrap_i64 h1 h2])
theorem aEf {t yt:TypeId} {x y:Operand} {a b:Int} (hx:ev sl x=some (.s (.int .i64 a))) (hy:ev sl y=some (.s (.int .i64 b))) (h1:-9223372036854775808≤a - b) (h2:a - b≤9223372036854775807):gX P ⟨some d,.binOp .sub t x y yt,ty,ps,af,gd⟩ ⟨n,sl,m⟩ (.s (.int .i64 (a - b))) :=
  w_bin hx hy (by simp [tH,yE,wrap_i64 h1 h2])
theorem aQ1 {x i:Operand} {t e k:Nat} {xs:List (List AV)} {c:List AV} {kd:IntKind} {z:Int} (hx:ev sl x=some (.sl k xs)) (hi:ev sl i=some (.s (.int kd z))) (ht:elem? P t=some e) (hc:cells? P e=some k) (hn:0≤z∧xs[z.toNat]?=some c) :
    gX P ⟨some d,.indexAddr t x i,ty,ps,af,gd⟩ ⟨n,sl,m⟩ (.adr c):=vB rfl ht hc (cO hx) (cO hi) hn
theorem kL {x i:Operand} {t e g k off c:Nat} {kd:IntKind} {z:Int} (hx:ev sl x=some (.own g k off c)) (hi:ev sl i=some (.s (.int kd z))) (ht:elem? P t=some e) (hc:cells? P e=some k) (hn:0≤z∧z<c) :
    gX P ⟨some d,.indexAddr t x i,ty,ps,af,gd⟩ ⟨n,sl,m⟩ (.ref g k (off+z.toNat) 0):=uM rfl ht hc (cO hx) (cO hi) hn
theorem qP {x:Operand} {t u f off c:Nat} {cs cs':List AV} (hx:ev sl x=some (.adr cs)) (ht:field? P t f=some (off,u)) (hu:cells? P u=some (c+1)) (he:cs.drop off=cs'):gX P ⟨some d,.fieldAddr t x f,ty,ps,af,gd⟩ ⟨n,sl,m⟩ (.adr cs') :=
  he ▸ uO rfl ht hu (Nat.succ_ne_zero _) (cO hx)
theorem qO {x:Operand} {t u f off c g k j i i':Nat} (hx:ev sl x=some (.ref g k j i)) (ht:field? P t f=some (off,u)) (hu:cells? P u=some (c+1)) (he:i+off=i'):gX P ⟨some d,.fieldAddr t x f,ty,ps,af,gd⟩ ⟨n,sl,m⟩ (.ref g k j i') :=
  he ▸ uN rfl ht hu (Nat.succ_ne_zero _) (cO hx)
theorem aG1 {x:Operand} {lo hi:Option Operand} {t e g k off c l h:Nat} (hx:ev sl x=some (.own g k off c)) (ht:elem? P t=some e) (hc:cells? P e=some k)
    (hl:bnd ⟨n,sl,m⟩ 0 lo=some l) (hh:bnd ⟨n,sl,m⟩ c hi=some h) (h1:l≤h) (h2:h≤c):gX P ⟨some d,.slice t x lo hi none,ty,ps,af,gd⟩ ⟨n,sl,m⟩ (.own g k (off+l) (h - l)):=zU rfl ht hc (cO hx) hl hh h1 h2
theorem bR {ops:Array Oper} {Q:Exit→St→Prop} {fuel:Nat} {listed listed':Array Bool} {op:Op} {av:AV} (i:Nat) (hi:ops[i]?=some ⟨some d,op,ty,ps,af,none⟩) (hns:Region.noSelect ops=true) (hr:((Region.ready .any ops listed).contains i&&Region.free .any ops listed i)=true) (hl:listed.setIfInBounds i true=listed')
    (hd:lt d n=true) (hQ:∀ c σ,¬ Q (.panic c) σ) (hp:gX P ⟨some d,op,ty,ps,af,none⟩ ⟨n,sl,m⟩ av) (h:oJ P w0 p0 ops Q fuel listed' ⟨n,(d,av)::sl,m⟩):oJ P w0 p0 ops Q (fuel+1) listed ⟨n,sl,m⟩:=by
  subst hl
  simp only[Bool.and_eq_true] at hr
  exact aNc i hi hns hr.1 hr.2 rfl rfl (oF hd) hQ hp h
end
end Go.Abs
set_option linter.unusedVariables false
set_option linter.unusedSimpArgs false
namespace Go.Abs
open Go Go.RowKit
variable {P:Program}
section
variable {n:Nat} {sl:List (Nat×AV)} {m:Mem} {d ty:Nat} {ps:String} {af:Array Edge} {gd:Option (Nat×Bool)}
end
end Go.Abs
set_option linter.unusedVariables false
set_option linter.unusedSimpArgs false
namespace Go.Abs
open Go Go.RowKit
variable {P:Program} {w0:World} {p0:Hp}
def scopeQ (Q:Exit→St→Prop):Exit→St→Prop
  | .goto _,_=>False
  | e,σ=>Q e σ
theorem aSi {c:Code} {σ:St} {Q:Exit→St→Prop} (h:AW P w0 p0 c σ (scopeQ Q)):AW P w0 p0 (.scope c) σ Q:=by
  intro a w hr
  refine wp_scope_straight (wp_mono (h a w hr) ?_)
  rintro e a' w' ⟨σ',h1,h2⟩
  cases e <;> first | exact⟨σ',h1,h2⟩ | exact h1.elim
theorem aSj {id:Nat} {σ:St} {Q:Exit→St→Prop} (h:Q .normal σ):AW P w0 p0 (.label id) σ Q :=
  fun _ _ hr=>wp_label ⟨σ,h,hr⟩
end Go.Abs
set_option linter.unusedVariables false
set_option linter.unusedSimpArgs false
namespace Go.Abs
open Go Go.RowKit Go.Sort Go.Proofs
variable {P:Program}
def aSz (P:Program) (f:Nat):Prop :=
  ∀ (p:Option Addr) (cap:Nat) (fv:Value) (w:World),Calls P f #[.slice p 0 cap,fv] w fun e w'=>e=.returned (.tuple #[])∧w'=w
section
variable {α:Type} [Inhabited α] {enc:α→Value}
theorem sw_ne {w:World} {blk off n:Nat} {d:Array α} {os:Array Obj} {b:Nat} (h:b≠blk) (hb:b<w.heap.size):(sortWorld enc w blk off n d os).heap[b]?=w.heap[b]?:=by
  unfold sortWorld
  rw[heap_grow_old _ _ (by simpa using hb)]
  simp [putRow,mapBlock,Array.getElem?_modify,Ne.symm h]
theorem sw_eq {w:World} {blk off n:Nat} {d:Array α} {os:Array Obj} {cur:Array Value} {T:TypeId} (h:w.heap[blk]?=some (.cells cur T (0,0))):(sortWorld enc w blk off n d os).heap[blk]?=some (.cells (putCells enc off d cur) T (0,0)):=by
  have hb:blk<w.heap.size:=(Array.getElem?_eq_some_iff.1 h).1
  unfold sortWorld
  rw[heap_grow_old _ _ (by simpa using hb)]
  simp [putRow,mapBlock,Array.getElem?_modify,h,onCells]
theorem sw_size {w:World} {blk off n:Nat} {d:Array α} {os:Array Obj}:(sortWorld enc w blk off n d os).heap.size=w.heap.size+os.size:=by
  unfold sortWorld; simp
end
theorem aR2 {W w':World} (hos:w'.os=W.os) (ht:w'.tape=W.tape∧W.drawn≤w'.drawn) (ho:w'.output=W.output) (hs:W.heap.size≤w'.heap.size) (hh:∀ b,b<W.heap.size→w'.heap[b]?=W.heap[b]?) :
    ∃ q os',w'=grow (W.drewN q) os':=by
  refine⟨w'.drawn - W.drawn,w'.heap.extract W.heap.size w'.heap.size,?_⟩
  have hheap:w'.heap=W.heap++w'.heap.extract W.heap.size w'.heap.size:=by
    apply Array.ext_getElem?
    intro i
    rw[Array.getElem?_append]
    split
    · rename_i h; exact hh i h
    · rename_i h
      rw[Array.getElem?_extract]
      have e:W.heap.size+(i - W.heap.size)=i:=by omega
      simp only[e,Nat.min_self]
      split
      · rfl
      · rw[Array.getElem?_eq_none (by omega)]
  cases w' with
  | mk heap tape drawn os output =>
    simp only at hos ht ho hs hheap
    unfold grow World.drewN
    rw[World.mk.injEq]
    refine⟨hheap,ht.1,?_,hos,ho⟩
    show drawn=W.drawn+(drawn - W.drawn)
    omega
end Go.Abs
set_option linter.unusedVariables false
set_option linter.unusedSimpArgs false
namespace Go.Abs
open Go Go.RowKit Go.Sort Go.Proofs
variable {P:Program}
def aSy (P:Program) (f k:Nat):Prop :=
  ∀ (m:Nat) (enc:Fin (m+1)→List Value) (cf:Fin (m+1)→Fin (m+1)→Int) (g:Nat) (cb:Array Value) (blk off cap:Nat) (d:Array (Fin (m+1))) (w:World),(∀ x,(enc x).length=k)→(∀ x,∀ v∈enc x,v.oneCell'=true)→SWO (ltOf cf) →
    (∀ args w,(callFunc g args).run P w=.ok (.enter g args) w)→CmpLays P g cb enc k cf blk off d.size w→HoldsK enc k w blk off d→blk<w.heap.size→d.size<4611686018427387904 →
    Calls P f #[.slice (some ⟨blk,off,none⟩) d.size cap,.func (.func g) #[] cb] w fun e w' =>
      e=.returned (.tuple #[])∧∃ d' n os,PermIn 0 d.size d d'∧SortedIn (ltOf cf) 0 d.size d'∧w'=sortWorldK enc k w blk off n d' os
theorem aMa {f g k:Nat} (hk0:0<k) (hS:aSy P f k) (h0:aSz P f) (eg:∀ args w,(callFunc g args).run P w=.ok (.enter g args) w) {α:Type} (ms:List α) (enc:α→List AV) (hlen:∀ a,(enc a).length=k) (hleaf:∀ a∈ms,∀ c∈enc a,c.leaf=true) (cf:α→α→Int)
    (hO:SWO (fun x y=>decide (cf x y<0))) (hcmp:∀ x∈ms,∀ y∈ms,Den P g [.agg (enc x),.agg (enc y)] (·=.s (.int .i64 (cf x y)))) (hsz:ms.length<4611686018427387904) :
    DenM P f [.own E0 k 0 ms.length,.fn g []] k (ms.map enc) (fun r ys=>∃ ms':List α,ms'.Perm ms∧ms'.Pairwise (fun x y=>¬ cf y x<0)∧ys=ms'.map enc):=by
  intro A w x vals hA hx hr hb
  obtain ⟨v0,v1,rfl⟩:∃ v0 v1,vals=[v0,v1]:=by
    have:=hr.1
    match vals,this with
    | [a,b],_=>exact⟨a,b,rfl⟩
  have r0:=hr.2 0 _ v0 rfl rfl
  have r1:=hr.2 1 _ v1 rfl rfl
  by_cases hms:ms=[]
  · subst hms
    obtain ⟨p,cap,rfl⟩:∃ p cap,v0=.slice p 0 cap:=by
      simp only[List.length_nil] at r0
      cases r0 <;> exact⟨_,_,rfl⟩
    refine(h0 p cap v1 w).mono ?_
    rintro e w' ⟨rfl,rfl⟩
    exact⟨_,.s (.tuple #[]),_,rfl,⟨[],.refl _,.nil,rfl⟩,Ext.refl _ _,hb,.s _⟩
  obtain ⟨m,hm⟩:∃ m,ms.length=m+1:=⟨ms.length - 1,by have:=List.length_pos_iff.2 hms; omega⟩
  rcases hb with ⟨hb,_⟩ | ⟨b,cur,T,hbE,hh,hcs,hck,hcell⟩
  · simp [hms] at hb
  have hxb:=(fX hbE).2
  subst hxb
  have hbs:b<w.heap.size:=(Array.getElem?_eq_some_iff.1 hh).1
  obtain ⟨cap,hcap,rfl⟩:∃ cap,ms.length≤cap∧v0=.slice (some ⟨b,0,none⟩) ms.length cap:=by
    generalize hn:ms.length=n at r0
    cases r0 with
    | ownn _ _ _=>omega
    | own _ _ _ _ b' cap cur' T' hg h1 h2 h3 h4 =>
      have:=(fX hg).2; cases this
      exact⟨cap,h1,by simp⟩
    | own0 _ _ _ _ _ _=>omega
  cases r1 with
  | fn _ _ cb hl _ =>
  have hcb:cb=#[]:=by simpa using hl.symm
  subst hcb
  have hcs':ms.length*k≤cur.size:=by simpa using hcs
  let el:Fin (m+1)→α:=fun i=>ms[i.1]'(by omega)
  let e:Fin (m+1)→List Value:=fun i=>(List.range k).map fun j=>cur.getD (i.1*k+j) undef
  let c:Fin (m+1)→Fin (m+1)→Int:=fun i j=>cf (el i) (el j)
  have helm:∀ i,el i∈ms:=fun i=>List.getElem_mem _
  have hel:∀ i,(e i).length=k:=fun i=>by simp [e]
  have hej:∀ (i:Fin (m+1)) (j:Nat) (hj:j<k),cur[i.1*k+j]?=some ((e i)[j]'(by rw[hel]; exact hj))∧RelV w (eL (some b) A) ((enc (el i))[j]'(by rw[hlen]; exact hj)) ((e i)[j]'(by rw[hel]; exact hj)):=fun i j hj=>by
    obtain ⟨v,h1,h2⟩:=hcell i.1 (enc (el i)) j ((enc (el i))[j]'(by rw[hlen]; exact hj)) (by rw[List.getElem?_map,List.getElem?_eq_getElem (show i.1<ms.length by omega)]; rfl) (by simp)
    have:(e i)[j]'(by rw[hel]; exact hj)=v:=by simp only[e,List.getElem_map,List.getElem_range,Array.getD_eq_getD_getElem?,h1,Option.getD_some]
    exact⟨by rw[this]; exact h1,by rw[this]; exact h2⟩
  let d:Array (Fin (m+1)):=Array.ofFn id
  have hds:d.size=ms.length:=by simp [d,hm]
  have hone:∀ x,∀ v∈e x,v.oneCell'=true:=fun x v hv=>by
    obtain ⟨j,hj⟩:=List.getElem?_of_mem hv
    obtain ⟨hj1,hj2⟩:=List.getElem?_eq_some_iff.1 hj
    rw[hel] at hj1
    subst hj2
    exact(hej x j hj1).2.one (AV.one_of_leaf (hleaf _ (helm x) _ (List.getElem_mem _)))
  -- a cell of the flat row
  have hflat:∀ (dk:Array (Fin (m+1))) (t:Nat),dk.size=ms.length→t<ms.length*k→∃ (q:Fin (m+1)),dk[t / k]! =q∧(flatK e k dk)[t]! =(e q)[t % k]'(by rw[hel]; exact Nat.mod_lt _ hk0):=fun dk t hdk ht=>by
    refine⟨_,rfl,?_⟩
    rw[get_flatK e k dk t (by rw[hdk]; exact ht)]
    rw[getElem!_pos]
  have hholds:HoldsK e k w b 0 d:=fun t ht=>by
    rw[size_flatK,hds] at ht
    obtain ⟨q,hq1,hq2⟩:=hflat d t hds ht
    rw[hq2]
    have htk:t / k<ms.length:=Nat.div_lt_of_lt_mul (by rw[Nat.mul_comm]; exact ht)
    have hqv:q.1=t / k:=by
      rw[← hq1,getElem!_pos d (t / k) (by rw[hds]; exact htk)]
      simp [d]
    refine⟨?_,?_⟩
    · simp only[World.cell?,hh,Nat.zero_add]
      have:=(hej q (t % k) (Nat.mod_lt _ hk0)).1
      rw[hqv,Nat.mul_comm (t / k) k,Nat.div_add_mod] at this
      exact this
    · simp [World.frozen?,hh]
  have hswo:SWO (ltOf c):=⟨fun x=>hO.irrefl _,fun x y z h1 h2=>hO.trans _ _ _ h1 h2,fun x y z h1 h2=>hO.ntrans _ _ _ h1 h2⟩
  have swne:∀ (n:Nat) (dk:Array (Fin (m+1))) (os:Array Obj) (b':Nat),b'≠b→b'<w.heap.size→(sortWorldK e k w b 0 n dk os).heap[b']?=w.heap[b']?:=fun n dk os b' h1 h2=>sw_ne (enc:=id) (d:=flatK e k dk) h1 h2
  have swsz:∀ (n:Nat) (dk:Array (Fin (m+1))) (os:Array Obj),(sortWorldK e k w b 0 n dk os).heap.size=w.heap.size+os.size:=fun n dk os=>sw_size (enc:=id) (d:=flatK e k dk)
  have swb:∀ (n:Nat) (dk:Array (Fin (m+1))) (os:Array Obj),(sortWorldK e k w b 0 n dk os).heap[b]?=some (.cells (putCells id 0 (flatK e k dk) cur) T (0,0)):=fun n dk os=>sw_eq (enc:=id) (d:=flatK e k dk) hh
  have hmv:∀ (n:Nat) (dk:Array (Fin (m+1))) (os:Array Obj) (q:Hp) (a:AV) (v:Value),(∀ b',Stable w (eL (some b) A) b'→Stable (sortWorldK e k w b 0 n dk os) q b')→a.leaf=true→RelV w (eL (some b) A) a v→RelV (sortWorldK e k w b 0 n dk os) q a v :=
    fun n dk os q a v hq hlf h=>h.move (ok:=fun _=>false) (fun b' hb'=>⟨hq b' hb',swne n dk os b' (fun h=>hb'.2.1 E0 (by rw[eE,h])) hb'.1⟩) (fun _ _ h _=>by cases h) (AV.clean_of_leaf hlf)
  have hmvs:∀ (n:Nat) (dk:Array (Fin (m+1))) (os:Array Obj) (q:Hp) (i:Fin (m+1)),(∀ b',Stable w (eL (some b) A) b'→Stable (sortWorldK e k w b 0 n dk os) q b')→RelV (sortWorldK e k w b 0 n dk os) q (.agg (enc (el i))) (.agg (e i).toArray):=fun n dk os q i hq=>by
    refine .agg _ _ (by simp [hlen,hel]) (fun j c v hc hv=>?_)
    have hj:j<k:=by rw[← hlen (el i)]; exact(List.getElem?_eq_some_iff.1 hc).1
    obtain ⟨_,h2⟩:=hej i j hj
    have hc':=(List.getElem?_eq_some_iff.1 hc).2
    have hv':v=(e i)[j]'(by rw[hel]; exact hj):=by
      rw[List.getElem?_toArray] at hv
      exact(List.getElem?_eq_some_iff.1 hv).2.symm
    rw[← hc',hv']
    exact hmv n dk os q _ _ hq (hleaf _ (helm i) _ (List.getElem_mem _)) h2
  have hlays:CmpLays P g #[] e k c b 0 d.size w:=by
    intro n os dk hdk i j
    have hst:∀ b',Stable w (eL (some b) A) b'→Stable (sortWorldK e k w b 0 n dk os) (fY fun b'=>A b'∨b'=b) b':=fun b' hb' =>
      ⟨by rw[swsz]; have:=hb'.1; omega,fun _ h=>(by cases h),fun h=>h.elim hb'.2.2 fun h=>hb'.2.1 E0 (by rw[eE,h])⟩
    have hden:=hcmp (el i) (helm i) (el j) (helm j) (fun b'=>A b'∨b'=b) (sortWorldK e k w b 0 n dk os) [.agg (e i).toArray,.agg (e j).toArray]
      (fun b' h=>by
        rw[swsz]
        rcases h with h | h
        · have:=hA b' h; omega
        · rw[h]; omega) ⟨rfl,fun q a v hq hv=>by
        match q,hq,hv with
        | 0,hq,hv=>cases hq; cases hv; exact hmvs _ _ _ _ _ hst
        | 1,hq,hv=>cases hq; cases hv; exact hmvs _ _ _ _ _ hst⟩
    refine hden.mono ?_
    rintro _ w' ⟨v,r,rfl,rfl,hE,hrv⟩
    cases hrv
    refine⟨rfl,aR2 hE.os hE.tape hE.output hE.size fun b' hb'=>?_⟩
    by_cases h:A b'∨b'=b
    · exact hE.others b' hb' h
    · exact(hE.stab b' ⟨hb',(fun _ h=>by cases h),h⟩).2
  have main:=hS m e c g #[] b 0 cap d w hel hone hswo eg hlays hholds hbs (by rw[hds]; exact hsz)
  rw[hds] at main
  refine main.mono ?_
  rintro _ w' ⟨rfl,d',n,os,hperm,hsort,rfl⟩
  have hps:d'.size=ms.length:=by rw[hperm.1,hds]
  have hperm':d'.toList.Perm d.toList:=by
    have h:=hperm.2.2
    rw[← hds] at h
    rw[Array.extract_size] at h
    have e2:d'.extract 0 d.size=d':=by rw[← hperm.1]; exact Array.extract_size
    rwa [e2] at h
  have hmsd:ms=d.toList.map el:=by
    apply List.ext_getElem
    · simp [d,hm]
    · intro i h1 h2
      have hid:i<d.size:=by rw[hds]; exact h1
      have:d[i]=(⟨i,by omega⟩:Fin (m+1)):=by simp only[d,Array.getElem_ofFn,id]
      rw[List.getElem_map,Array.getElem_toList]
      show ms[i]=ms[(d[i]).1]'_
      simp only[this]
  have hstab:∀ b',Stable w (eL (some b) A) b'→Stable (sortWorldK e k w b 0 n d' os) (eL (some b) A) b':=fun b' hb'=>⟨by rw[swsz]; have:=hb'.1; omega,hb'.2⟩
  have hne:∀ b',Stable w (eL (some b) A) b'→b'≠b:=fun b' hb' h=>hb'.2.1 E0 (by rw[eE,h])
  refine⟨_,.s (.tuple #[]),_,rfl,⟨d'.toList.map el,?_,?_,rfl⟩,?_,?_,.s _⟩
  · rw[hmsd]; exact hperm'.map el
  · rw[List.pairwise_map,List.pairwise_iff_getElem]
    intro i j hi hj hij
    have hi':i<d'.size:=by simpa using hi
    have hj':j<d'.size:=by simpa using hj
    have:=hsort i j (Nat.zero_le _) hij (by omega)
    rw[getElem!_pos d' i hi',getElem!_pos d' j hj'] at this
    simpa [ltOf,c,el] using this
  · refine⟨rfl,⟨rfl,Nat.le_add_right _ _⟩,rfl,by rw[swsz]; omega,rfl,fun b' hb'=>⟨hstab b' hb',swne _ _ _ b' (hne b' hb') hb'.1⟩,fun b' hb' hAb=>swne _ _ _ b' (fun h=>hx b' (by rw[h]) hAb) hb',fun g' x hg'=>?_⟩
    have:=fX hg'
    obtain ⟨rfl,rfl⟩:=this
    refine .inr ⟨eE _ _,fun b' hb' cur' T' hh'=>?_⟩
    cases hb'
    rw[hh] at hh'; cases hh'
    exact⟨_,swb _ _ _,by simp [putCells]⟩
  · refine .inr ⟨b,putCells id 0 (flatK e k d') cur,T,eE _ _,swb _ _ _,?_,?_,?_⟩
    · simp only[List.length_map,Array.length_toList,hps,putCells,Array.size_mapIdx]; exact hcs'
    · intro y hy
      obtain ⟨a,ha,rfl⟩:=List.mem_map.1 hy
      obtain ⟨i,_,rfl⟩:=List.mem_map.1 ha
      exact⟨hlen _,hleaf _ (helm i)⟩
    · intro j y i a hy ha
      rw[List.getElem?_map,List.getElem?_map] at hy
      cases hd':d'.toList[j]? with
      | none=>simp [hd'] at hy
      | some q =>
        simp [hd'] at hy
        subst hy
        have hi:i<k:=by rw[← hlen (el q)]; exact(List.getElem?_eq_some_iff.1 ha).1
        have ha':=(List.getElem?_eq_some_iff.1 ha).2
        have hj:j<d'.size:=by simpa using (List.getElem?_eq_some_iff.1 hd').1
        have hjk:(j+1)*k≤ms.length*k:=Nat.mul_le_mul_right _ (by omega)
        rw[Nat.add_mul] at hjk
        have hjc:j*k+i<cur.size:=by omega
        obtain ⟨q',hq1,hq2⟩:=hflat d' (j*k+i) hps (by omega)
        have e1:(j*k+i) / k=j:=by rw[Nat.mul_comm,Nat.mul_add_div hk0,Nat.div_eq_of_lt hi,Nat.add_zero]
        have e2:(j*k+i) % k=i:=by rw[Nat.mul_comm,Nat.mul_add_mod,Nat.mod_eq_of_lt hi]
        have hq:q'=q:=by
          rw[← hq1,e1,getElem!_pos d' j hj]
          have:=(List.getElem?_eq_some_iff.1 hd').2
          simpa using this
        subst hq
        simp only[e2] at hq2
        refine⟨(e q')[i]'(by rw[hel]; exact hi),?_,?_⟩
        · have hin:j*k+i<(flatK e k d').size:=by rw[size_flatK,hps]; omega
          simp only[putCells,Array.getElem?_mapIdx,Array.getElem?_eq_getElem hjc,Option.map_some,Nat.zero_le,true_and,Nat.zero_add,Nat.sub_zero,if_pos hin,hq2,id]
        · rw[← ha']
          exact hmv _ _ _ _ _ _ hstab (hleaf _ (helm q') _ (List.getElem_mem _)) (hej q' i hi).2
end Go.Abs
set_option linter.unusedVariables false
set_option linter.unusedSimpArgs false
namespace Go.Abs
open Go Go.RowKit Go.Sort Go.Proofs Go.Lib
variable {P:Program}
section
variable {α:Type} [Inhabited α] {enc:α→Value}
end
end Go.Abs
set_option linter.unusedVariables false
set_option linter.unusedSimpArgs false
namespace Go.Abs
open Go Go.RowKit Go.ChangeShapes Go.WideShapes Go.ChangeAt
variable {P:Program} {H:Type} {enc:TypeId×Value→H}
abbrev aCl:Hp:=fY fun _=>False
theorem aGk {W W':World} {q:Hp} (h:Ext W aCl W' q):Below W.heap.size W W' :=
  ⟨h.os,h.tape.1,h.output,h.size,fun k hk=>(h.stab k ⟨hk,(fun _ h=>by cases h),fun h=>h⟩).2⟩
theorem stable0 {W:World} {b:Nat} (h:b<W.heap.size):Stable W aCl b:=⟨h,(fun _ h=>by cases h),fun h=>h⟩
theorem aD9 {W W':World} (h:Below W.heap.size W W') (may:MemPlace→Prop):W.keptBut W' may:=by
  refine⟨h.os,h.output,fun i hi=>?_⟩
  rw[h.block i hi]
  cases hw:W.heap[i]? with
  | none=>simp
  | some o=>cases o <;> simp
theorem uR {W W':World} (hl:laidOutB P=true) {sp:Nat→Bool} (hsame:∀ b,b<W.heap.size→W'.heap[b]?=W.heap[b]?):∀ {ts:List TypeId} {vs:List Value} {ds:List (DataW H)} {ps:List MemPlace},
    (∀ t∈ts,P.readableRec t=true∧t<P.types.size)→DataW.TrodAll enc P W 0 (fun _=>true) true ts vs ds ps→(∀ p∈ps,p.block<W.heap.size)→(∀ p∈ps,W.sameAt W' p)→(∀ p∈ps,sp p.block=true)→DataW.TrodAll enc P W' 0 sp true ts vs ds ps
  | [],[],[],ps,_,h,_,_,_=>h
  | t::ts,v::vs,d::ds,ps,hr,⟨p,q,h1,h2,e⟩,hlt,hsm,hs=>by
    subst e
    exact⟨p,q,WideElems.Trod_stays hl (hr t (by simp)).1 (hr t (by simp)).2 h1 (fun x hx=>hsm x (by simp [hx])) (fun x hx=>hs x (by simp [hx])),
      uR hl hsame (fun t ht=>hr t (by simp [ht])) h2 (fun x hx=>hlt x (by simp [hx])) (fun x hx=>hsm x (by simp [hx])) (fun x hx=>hs x (by simp [hx])),rfl⟩
theorem aPb {fn:Func} {s:ChangeSpec} {apart fresh handsOn again:Bool} {W W':World} {args:Array Value} {ds gs:List (DataW H)} {before:List MemPlace} {t:TypeId}
    (hW:DataW.Whole enc P fn.params.toList s.vars apart W args.toList ds gs before) (hb:Below W.heap.size W W') (hl:laidOutB P=true) (hr:∀ t∈fn.params.toList,P.readableRec t=true∧t<P.types.size)
    (hv:s.vars=[]) (hs:gs=[]→s.fn H ds={ results:=[.lit (.bool true)],args:=ds }) (hres:fn.resultTypes=#[t]) (hone:fn.resultTypes.size=1) (ht:P.underlying t=some .bool) :
    s.post enc P fn apart fresh handsOn again W args (.bool true) W':=by
  have hW':=hW
  obtain ⟨p,q,hA,hV,rfl,hfz,hnd⟩:=hW
  rw[hv] at hV
  have hg:gs=[]∧q=[]:=by
    cases gs with
    | nil=>exact⟨rfl,hV⟩
    | cons g gs=>exact hV.elim
  obtain ⟨rfl,rfl⟩:=hg
  have hlt:=DataW.TrodAll.lt hA
  have hold:∀ x∈p,(fun b=>decide (b<W.heap.size)) x.block=true:=fun x hx=>by simpa using hlt x hx
  have hres':∀ (b:Nat) (sp:Nat→Bool) (hd:Bool),DataW.TrodAll enc P W' b sp hd fn.resultTypes.toList ((Value.bool true).resultList fn.resultTypes.size) [DataW.lit (.bool true)] []:=fun b sp hd=>by
    rw[hres]; exact trodAll_cons_mk (shut_bool ht _) trodAll_mk0
  have hargs:∀ sp:Nat→Bool,(∀ x∈p,sp x.block=true)→DataW.TrodAll enc P W' 0 sp true fn.params.toList args.toList ds p:=fun sp hsp =>
    uR hl hb.block hr hA hlt (fun x hx=>hb.same (hlt x hx)) hsp
  have hvars:∀ sp:Nat→Bool,DataW.TrodVars enc P W' sp s.vars ([]:List (DataW H)) []:=fun sp=>by rw[hv]; rfl
  refine⟨ds,[],p++[],[],p,[],hW',?_,?_,?_,World.keptBut_mono (fun x hx=>⟨hx,.inr (.inl (by simpa using hx))⟩) (aD9 hb _),fun _=>?_⟩
  · rw[List.append_nil,hs rfl]; exact hres' _ _ _
  · rw[List.append_nil,hs rfl]; exact hargs _ hold
  · rw[List.append_nil,hs rfl]; exact hvars _
  · refine⟨ok_one hres rfl (okWide_bool_mk ht _),_,_,([]++p)++[],⟨[]++p,[],trodAll_append (hargs _ fun _ _=>rfl) (hres' _ _ _),hvars _,rfl,?_,?_⟩,?_⟩
    · intro b off hp
      have hp':MemPlace.cell b off∈p:=by simpa using hp
      have e:W'.heap[b]?=W.heap[b]?:=hb.block b (hlt _ hp')
      simp only[World.frozen?,e]
      exact hfz b off (by simpa using hp')
    · intro ha
      simpa using hnd ha
    · intro x hx _
      simpa using hx
end Go.Abs
set_option linter.unusedVariables false
set_option linter.unusedSimpArgs false
namespace Go.Abs
open Go Go.RowKit Go.ChangeShapes Go.WideShapes Go.ChangeAt
variable {P:Program} {H:Type} {enc:TypeId×Value→H}
mutual
def Ty:TD→List AV→Prop
  | .bool,cs=>∃ b,cs=[.s (.bool b)]
  | .int k,cs=>∃ n,cs=[.s (.int k n)]∧(Lit.int k n).wf=true
  | .str,cs=>∃ s:ByteArray,cs=[.s (.string s)]∧s.size≤140737488351232
  | .sl b d,cs=>∃ xs,cs=[.sl d.n xs]∧xs.length≤9223372036854775807∧xs.length*b≤140737488351232∧∀ x∈xs,Ty d x
  | .agg ds,cs=>TyL ds cs
def TyL:List TD→List AV→Prop
  | [],cs=>cs=[]
  | d::r,cs=>∃ a b,cs=a++b∧Ty d a∧TyL r b
end
theorem aA7:∀ (k:Nat) (d:TD),SizeOf.sizeOf d<k→∀ cs,Ty d cs→cs.length=d.n
  | 0,d,h,_,_=>by omega
  | k+1,.bool,_,cs,⟨b,h⟩=>by subst h; simp [TD.n]
  | k+1,.int _,_,cs,⟨n,h,_⟩=>by subst h; simp [TD.n]
  | k+1,.str,_,cs,⟨s,h,_⟩=>by subst h; simp [TD.n]
  | k+1,.sl _ _,_,cs,⟨xs,h,_⟩=>by subst h; simp [TD.n]
  | k+1,.agg ds,hk,cs,h=>by
    simp only[TD.n]
    simp only[Ty] at h
    have:∀ (ds:List TD),SizeOf.sizeOf ds<k→∀ cs,TyL ds cs→cs.length=TD.nL ds:=by
      intro ds
      induction ds with
      | nil=>intro _ cs h; simp only[TyL] at h; subst h; simp [TD.nL]
      | cons d r ih =>
        intro hs cs h
        simp only[TyL] at h
        obtain ⟨a,b,rfl,ha,hb⟩:=h
        have h1:=aA7 k d (by simp at hs; omega) a ha
        have h2:=ih (by simp at hs; omega) b hb
        simp [TD.nL,h1,h2]
    exact this ds (by simp at hk; omega) cs h
theorem ty_len {d:TD} {cs:List AV} (h:Ty d cs):cs.length=d.n:=aA7 _ d (Nat.lt_succ_self _) cs h
theorem RelL.app {w:World} {p:Hp} {a b:List AV} {x y:List Value} (h:RelL w p a x) (k:RelL w p b y):RelL w p (a++b) (x++y):=by
  refine⟨by simp [h.1,k.1],fun i c v hc hv=>?_⟩
  by_cases hi:i<a.length
  · rw[List.getElem?_append_left hi] at hc
    rw[List.getElem?_append_left (by rw[← h.1]; exact hi)] at hv
    exact h.2 i c v hc hv
  · rw[List.getElem?_append_right (by omega)] at hc
    rw[List.getElem?_append_right (by rw[← h.1]; omega),← h.1] at hv
    exact k.2 _ c v hc hv
theorem RelL.one {w:World} {p:Hp} {c:AV} {v:Value} (h:RelV w p c v):RelL w p [c] [v]:=by
  refine⟨rfl,fun i c' v' hc hv=>?_⟩
  cases i with
  | zero=>simp at hc hv; subst hc; subst hv; exact h
  | succ i=>simp at hc
section
variable {W:World} {base:Nat} {sp:Nat→Bool} {held:Bool}
theorem pB {e:TypeId} {q:Nat}:∀ {l:List (DataW H)} {d:DataW H},d∈l→q∈d.weights P e→q∈DataW.weightsAll P e l
  | [],_,h,_=>by simp at h
  | x::l,d,h,hq=>by
    simp only[DataW.weightsAll,List.mem_append]
    rcases List.mem_cons.1 h with rfl | h
    · exact .inl hq
    · exact .inr (pB h hq)
theorem oA {q:Nat}:∀ {ts:List TypeId} {ds:List (DataW H)} {i:Nat} {t:TypeId} {d:DataW H},ts[i]?=some t→ds[i]?=some d→q∈d.weights P t→q∈DataW.weightsEach P ts ds
  | [],_,_,_,_,h,_,_=>by simp at h
  | _::_,[],_,_,_,_,h,_=>by simp at h
  | t0::ts,d0::ds,i,t,d,ht,hd,hq=>by
    simp only[DataW.weightsEach,List.mem_append]
    cases i with
    | zero=>simp at ht hd; subst ht; subst hd; exact .inl hq
    | succ i=>exact .inr (oA (i:=i) (by simpa using ht) (by simpa using hd) hq)
def aFj (P:Program) (t:TypeId) (d:DataW H):Prop:=∀ q∈d.weights P t,q≤reachBytes
theorem xY {ts us:List TypeId} {ds gs:List (DataW H)} (h:(DataW.weightsEach P (ts++us) (ds++gs)).all (·≤reachBytes)=true) {i:Nat} {t:TypeId} {d:DataW H} (ht:ts[i]?=some t) (hd:ds[i]?=some d):aFj P t d:=by
  intro q hq
  simp only[List.all_eq_true,decide_eq_true_eq] at h
  have h1:=(List.getElem?_eq_some_iff.1 ht).1
  have h2:=(List.getElem?_eq_some_iff.1 hd).1
  exact h q (oA (i:=i) (by rw[List.getElem?_append_left h1]; exact ht) (by rw[List.getElem?_append_left h2]; exact hd) hq)
def Cells (W:World) (d:TD) (vs:List Value):Prop:=∃ cs,Ty d cs∧RelL W aCl cs vs∧∀ c∈cs,c.leaf=true
theorem aHv (f:TypeId→Option TD) (IH:∀ t d,f t=some d→∀ fuel vs x,DataW.trod enc P W base sp held fuel t vs=some x→aFj P t x.1→Cells W d vs) :
    ∀ (segs:List (Nat×TypeId)) (o:Nat) (ds:List TD) (vs:List Value),lF P f o segs=some ds →
      (∀ s∈segs,∃ fuel x,DataW.trod enc P W base sp held fuel s.2 ((vs.drop s.1).take (P.cellsOf s.2))=some x∧aFj P s.2 x.1)→o+TD.nL ds=vs.length →
      ∃ cs,TyL ds cs∧RelL W aCl cs (vs.drop o)∧∀ c∈cs,c.leaf=true:=by
  intro segs
  induction segs with
  | nil =>
    intro o ds vs h _ hl
    simp only[lF,Option.some.injEq] at h
    subst h
    simp only[TD.nL,Nat.add_zero] at hl
    refine⟨[],by simp [TyL],⟨by simp [hl],fun i c v hc _=>by simp at hc⟩,by simp⟩
  | cons s r ih =>
    intro o ds vs h hx hl
    obtain ⟨off,t⟩:=s
    simp only[lF] at h
    split at h
    · rename_i d hd
      split at h
      · rename_i hc
        obtain ⟨rfl,hn⟩:=hc
        cases hr:lF P f (off+d.n) r with
        | none=>simp [hr] at h
        | some es =>
          simp only[hr,Option.map_some,Option.some.injEq] at h
          subst h
          simp only[TD.nL] at hl
          obtain ⟨fuel,x,hx1,hw1⟩:=hx (off,t) (by simp)
          obtain ⟨a,ha1,ha2,ha3⟩:=IH t d hd fuel _ x hx1 hw1
          obtain ⟨b,hb1,hb2,hb3⟩:=ih (off+d.n) es vs hr (fun s hs=>hx s (by simp [hs])) (by omega)
          refine⟨a++b,by simp only[TyL]; exact⟨a,b,rfl,ha1,hb1⟩,?_,fun c hc=>(List.mem_append.1 hc).elim (ha3 c) (hb3 c)⟩
          have e:vs.drop off=(vs.drop off).take (P.cellsOf t)++vs.drop (off+d.n):=by
            rw[← hn,← List.drop_drop]; exact(List.take_append_drop _ _).symm
          rw[e]
          exact ha2.app hb2
      · cases h
    · cases h
theorem aPe:∀ (n:Nat) (t:TypeId) (d:TD),tdOf? P n t=some d→∀ fuel vs x,DataW.trod enc P W base sp held fuel t vs=some x→aFj P t x.1→Cells W d vs:=by
  intro n
  induction n with
  | zero=>intro t d h; simp [tdOf?] at h
  | succ n ih =>
    intro t d h fuel vs x hx hlw
    unfold tdOf? at h
    split at h
    · rename_i ht; cases h
      obtain ⟨b,rfl,_⟩:=DataW.trod_bool ht hx
      exact⟨[.s (.bool b)],by simp only[Ty]; exact⟨b,rfl⟩,.one (.s _),by simp [AV.leaf,Value.oneCell']⟩
    · rename_i k ht; cases h
      obtain ⟨z,rfl,_,hw⟩:=DataW.trod_int ht hx
      exact⟨[.s (.int k z)],by simp only[Ty]; exact⟨z,rfl,hw⟩,.one (.s _),by simp [AV.leaf,Value.oneCell']⟩
    · rename_i ht; cases h
      obtain ⟨s,rfl,rfl,hw⟩:=DataW.trod_string ht hx
      have hws:=hlw s.data.toList.length (by simp [DataW.weights])
      exact⟨[.s (.string s)],by simp only[Ty]; exact⟨s,rfl,by simpa [reachBytes] using hws⟩,.one (.s _),by simp [AV.leaf,Value.oneCell']⟩
    · rename_i e ht
      split at h
      · rename_i de hde
        split at h
        · rename_i hn
          obtain ⟨hn,hpos⟩:=hn
          cases h
          have hmx:maxLen=9223372036854775807:=rfl
          rcases Go.Deep.open_slice ht hx with ⟨rfl,_⟩ | ⟨a,len,cap,m,fu,D,Pl,rfl,_,hl,hm,hmm,hxe,hel⟩
          · exact⟨[.sl de.n []],by simp only[Ty]; exact⟨[],rfl,by simp,by simp,by simp⟩,.one (.sln _ _ _ (by simp [maxLen])),by simp [AV.leaf]⟩
          · have hlm:len≤m:=by rw[hmm]; split <;> omega
            have hlen48:len*P.bytesOf e≤140737488351232:=by
              have h0:=hlw ((((List.range len).map D).length+((List.range (m - len)).map fun j=>D (len+j)).length)*P.bytesOf e) (by rw[hxe]; simp [DataW.weights,ht])
              have h1:len*P.bytesOf e≤(((List.range len).map D).length+((List.range (m - len)).map fun j=>D (len+j)).length)*P.bytesOf e:=Nat.mul_le_mul_right _ (by simp)
              have:reachBytes=140737488351232:=rfl
              omega
            have hlD:∀ i,i<len→aFj P e (D i):=fun i hi q hq=>hlw q (by
              rw[hxe]
              simp only[DataW.weights,ht,List.mem_cons,List.mem_append]
              exact .inr (.inl (pB (List.mem_map.2 ⟨i,by simpa using hi,rfl⟩) hq)))
            have key:∀ i,i<len→∃ q:List AV×List Value,Ty de q.1∧RelL W aCl q.1 q.2∧(∀ c∈q.1,c.leaf=true)∧W.cells? base (a.add (i*P.cellsOf e)) (P.cellsOf e)=some q.2:=by
              intro i hi
              obtain ⟨cs',h1,h2⟩:=hel i (by omega)
              obtain ⟨cs,k1,k2,k3⟩:=ih e de hde fu cs' _ h2 (hlD i hi)
              exact⟨(cs,cs'),k1,k2,k3,h1⟩
            obtain ⟨g,hg⟩:=Go.Deep.choose_lt key
            by_cases h0:len=0
            · subst h0
              exact⟨[.sl de.n []],by simp only[Ty]; exact⟨[],rfl,by simp,by simp,by simp⟩,.one (.sln _ _ _ hm),by simp [AV.leaf]⟩
            · have hcell:∀ j i,j<len→i<de.n→W.cell? ((a.add (j*de.n)).add i)=(g j).2[i]?:=by
                intro j i hj hi
                have:=(hg j hj).2.2.2
                rw[← hn] at this
                exact(World.cells?_some this).2.2 i hi
              have hlen:∀ j,j<len→(g j).1.length=de.n∧(g j).2.length=de.n:=by
                intro j hj
                have h1:=ty_len (hg j hj).1
                exact⟨h1,by rw[← (hg j hj).2.1.1,h1]⟩
              have hspot:a.spot=none:=by
                have h1:=hcell 0 0 (by omega) hpos
                cases hs:a.spot with
                | none=>rfl
                | some x =>
                  exfalso
                  have h2:(g 0).2[0]?≠none:=by
                    have:=(hlen 0 (by omega)).2
                    rw[List.getElem?_eq_getElem (by omega)]; simp
                  rw[← h1] at h2
                  apply h2
                  have:((a.add (0*de.n)).add 0)=a:=by simp [Addr.add]
                  rw[this]
                  simp only[World.cell?,hs]
                  split <;> simp
              have hblk:a.block<W.heap.size:=by
                have h1:=hcell 0 0 (by omega) hpos
                have h2:(g 0).2[0]?≠none:=by
                  have:=(hlen 0 (by omega)).2
                  rw[List.getElem?_eq_getElem (by omega)]; simp
                rw[← h1] at h2
                have:((a.add (0*de.n)).add 0)=a:=by simp [Addr.add]
                rw[this] at h2
                simp only[World.cell?] at h2
                split at h2
                · rename_i h; exact(Array.getElem?_eq_some_iff.1 h).1
                · exact absurd rfl h2
              obtain ⟨b,off,spot⟩:=a
              simp only at hspot hblk
              subst hspot
              have hll:((List.range len).map fun j=>(g j).1).length=len:=by simp
              have hget:∀ (j:Nat) x,((List.range len).map fun j=>(g j).1)[j]?=some x→j<len∧x=(g j).1:=by
                intro j x hj
                rw[List.getElem?_map] at hj
                cases hq:(List.range len)[j]? with
                | none=>simp [hq] at hj
                | some s =>
                  obtain ⟨h1,h2⟩:=List.getElem?_eq_some_iff.1 hq
                  simp at h1 h2
                  subst h2
                  simp [hq] at hj
                  exact⟨h1,hj.symm⟩
              have ty:∀ x∈(List.range len).map fun j=>(g j).1,Ty de x:=by
                intro x hxm
                obtain ⟨j,hj,rfl⟩:=List.mem_map.1 hxm
                exact(hg j (by simpa using hj)).1
              have key:=RelV.slc (w:=W) (p:=aCl) de.n ((List.range len).map fun j=>(g j).1) b off cap (fun j i=>((g j).2[i]?).getD undef) (stable0 hblk) (by rw[hll]; exact hl) hm
                (fun x hxm=>by
                  obtain ⟨j,hj,rfl⟩:=List.mem_map.1 hxm
                  have hj':j<len:=by simpa using hj
                  exact⟨(hlen j hj').1,(hg j hj').2.2.1⟩)
                (fun j x i c hj hi=>by
                  obtain ⟨hj',rfl⟩:=hget j x hj
                  have hi':i<de.n:=by rw[← (hlen j hj').1]; exact(List.getElem?_eq_some_iff.1 hi).1
                  have h1:=hcell j i hj' hi'
                  rw[jX,jX] at h1
                  rw[h1,List.getElem?_eq_getElem (by rw[(hlen j hj').2]; exact hi')]
                  rfl)
                (fun j x i c hj hi=>by
                  obtain ⟨hj',rfl⟩:=hget j x hj
                  have hi':i<de.n:=by rw[← (hlen j hj').1]; exact(List.getElem?_eq_some_iff.1 hi).1
                  have hv:(g j).2[i]?=some ((g j).2[i]'(by rw[(hlen j hj').2]; exact hi')):=List.getElem?_eq_getElem _
                  rw[hv]
                  exact(hg j hj').2.1.2 i c _ hi hv)
              rw[hll] at key
              exact⟨[.sl de.n ((List.range len).map fun j=>(g j).1)],by simp only[Ty]; exact⟨_,rfl,by rw[hll]; omega,by rw[hll]; exact hlen48,ty⟩,.one key,by simp [AV.leaf]⟩
        · cases h
      · cases h
    · rename_i fs ht
      split at h
      · rename_i ds hds
        split at h
        · rename_i hn
          cases h
          obtain ⟨xs,fu,_,hxe,hlen,hxl,hf⟩:=DataW.trod_struct ht hx
          obtain ⟨cs,h1,h2,h3⟩:=aHv (tdOf? P n) (fun t d h=>ih t d h) _ 0 ds vs hds (fun s hs=>by
            obtain ⟨f,hfm,rfl⟩:=List.mem_map.1 hs
            obtain ⟨i,hi⟩:=List.getElem?_of_mem hfm
            have h4:=hf i f (by simpa using hi)
            cases hq:xs[i]? with
            | none =>
              exfalso
              have h5:=(List.getElem?_eq_some_iff.1 hi).1
              simp at h5 hq
              omega
            | some y =>
              refine⟨fu,y,by rw[h4,hq],fun q hq'=>hlw q ?_⟩
              rw[hxe]
              simp only[DataW.weights,ht]
              exact oA (i:=i) (by rw[List.getElem?_map,hi]; rfl) (by rw[List.getElem?_map,hq]; rfl) hq') (by rw[hn,hlen]; omega)
          exact⟨cs,by simp only[Ty]; exact h1,h2,h3⟩
        · cases h
      · cases h
    · rename_i m e ht
      split at h
      · rename_i ds hds
        split at h
        · rename_i hn
          cases h
          obtain ⟨xs,fu,_,hxe,hlen,hxl,hf⟩:=DataW.trod_array ht hx
          obtain ⟨cs,h1,h2,h3⟩:=aHv (tdOf? P n) (fun t d h=>ih t d h) _ 0 ds vs hds (fun s hs=>by
            obtain ⟨i,him,rfl⟩:=List.mem_map.1 hs
            have hi:i<m:=by simpa using him
            have h4:=hf i hi
            cases hq:xs[i]? with
            | none=>exfalso; simp at hq; omega
            | some y =>
              refine⟨fu,y,by rw[h4,hq],fun q hq'=>hlw q ?_⟩
              rw[hxe]
              simp only[DataW.weights,ht]
              exact pB (List.mem_map.2 ⟨y,List.mem_of_getElem? hq,rfl⟩) hq') (by rw[hn,hlen]; omega)
          exact⟨cs,by simp only[Ty]; exact h1,h2,h3⟩
        · cases h
      · cases h
    · cases h
theorem aFt {r:Reach} {b0 n:Nat} {t:TypeId} {v:Value} {d:DataW H} {ps:List MemPlace} {dd:TD} (ht:tdOf? P n t=some dd) (hag:agg? P t=some false)
    (hval:Value.okWide P W r b0 t v) (hd:DataW.Trod enc P W base sp held t v d ps) (hw:aFj P t d):∃ c,Ty dd [c]∧RelV W aCl c v:=by
  obtain ⟨fuel,hf⟩:=hd
  obtain ⟨cs,h1,h2,h3⟩:=aPe n t _ ht fuel _ _ hf hw
  have:v.cells=#[v]:=by
    unfold agg? at hag
    unfold Value.okWide at hval
    cases hu:P.underlying t with
    | none=>simp [hu] at hag
    | some q =>
      rw[hu] at hval
      cases n with
      | zero=>simp [tdOf?] at ht
      | succ n =>
        unfold tdOf? at ht
        rw[hu] at ht
        cases q <;> simp at ht hag <;> (simp only[Cell.okWide,hu] at hval; cases v <;> simp_all[Cell.ok,Value.cells])
  rw[this] at h2
  obtain ⟨hl,hp⟩:=h2
  match cs,hl with
  | [c],_=>exact⟨c,h1,hp 0 c v rfl rfl⟩
end
theorem aN9 {α:Type} (enc:α→List AV) (ok:α→Prop) {d:TD} (h:∀ cs,Ty d cs→∃ a,cs=enc a∧ok a):∀ {xs:List (List AV)},(∀ x∈xs,Ty d x)→∃ l:List α,xs=l.map enc∧∀ a∈l,ok a
  | [],_=>⟨[],rfl,by simp⟩
  | x::xs,hx=>by
    obtain ⟨a,rfl,ha⟩:=h x (hx x (by simp))
    obtain ⟨l,rfl,hl⟩:=aN9 enc ok h (xs:=xs) (fun y hy=>hx y (by simp [hy]))
    exact⟨a::l,rfl,by simpa using ⟨ha,hl⟩⟩
end Go.Abs
set_option linter.unusedVariables false
namespace Go.Abs
theorem bs:(∀ b:Bool,((!b)=true)=(b=false))∧(∀ b:Bool,((!b)=false)=(b=true))∧((!true)=false)∧((!false)=true)∧(∀ b:Bool,(!!b)=b)∧(∀ (p:Prop) [Decidable p],(decide p=true)=p)∧(∀ (p:Prop) [Decidable p],(decide p=false)↔¬ p)
   ∧(∀ a b:Int,((a == b)=true)↔a=b)∧(∀ a b:Int,((a == b)=false)↔¬ a=b)∧(∀ a b:Int,((a != b)=true)↔¬ a=b)∧(∀ a b:Int,((a != b)=false)↔a=b)∧(∀ a b:Int,(¬ a<b)↔b≤a)∧(∀ a b:Int,(¬ a≤b)↔b<a)∧(∀ a b:Nat,(¬ a<b)↔b≤a)∧(∀ a b:Nat,(¬ a≤b)↔b<a)
   ∧(∀ a b:Int,a > b↔b<a)∧(∀ a b:Int,a≥b↔b≤a)∧(∀ a b:Nat,a > b↔b<a)∧(∀ a b:Nat,a≥b↔b≤a)∧(∀ a b:Bool,((a&&b)=true)=(a=true∧b=true))∧(∀ a b:Bool,((a||b)=true)=(a=true∨b=true))∧(∀ a b:Nat,((a:Int)<(b:Int))↔a<b)∧(∀ a b:Nat,((a:Int)≤(b:Int))↔a≤b)∧(∀ a b:Nat,((a:Int)=(b:Int))↔a=b)
   ∧(∀ {α:Type} [BEq α] [LawfulBEq α] (a b:α),((a == b)=true)↔a=b)∧(∀ {α:Type} [BEq α] [LawfulBEq α] (a b:α),((a == b)=false)↔a≠b)∧(∀ {α:Type} [BEq α] [LawfulBEq α] (a b:α),((a != b)=true)↔a≠b)∧(∀ {α:Type} [BEq α] [LawfulBEq α] (a b:α),((a != b)=false)↔a=b)∧(∀ {α:Type} (a b:α),(a≠b)=¬ a=b)
   ∧(∀ {α β:Type} (f:α→β) (l:List α),(l.map f).length=l.length)∧(∀ {α:Type} (a:α) (l:List α),(a::l).length=l.length+1)∧(∀ {α:Type},([]:List α).length=0)∧(∀ {α:Type} (a b:List α),(a++b).length=a.length+b.length) :=
  ⟨fun _=>Bool.not_eq_true' _,fun _=>Bool.not_eq_false' _,Bool.not_true,Bool.not_false,Bool.not_not,fun p _=>decide_eq_true_eq,fun p _=>decide_eq_false_iff_not,fun _ _=>beq_iff_eq,fun _ _=>beq_eq_false_iff_ne,fun _ _=>bne_iff_ne,fun _ _=>bne_eq_false_iff_eq,fun _ _=>Int.not_lt,fun _ _=>Int.not_le,fun _ _=>Nat.not_lt,fun _ _=>Nat.not_le,
   fun _ _=>Iff.rfl,fun _ _=>Iff.rfl,fun _ _=>Iff.rfl,fun _ _=>Iff.rfl,Bool.and_eq_true,Bool.or_eq_true,fun _ _=>Int.ofNat_lt,fun _ _=>Int.ofNat_le,fun _ _=>Int.natCast_inj,
   fun _ _=>beq_iff_eq,fun _ _=>beq_eq_false_iff_ne,fun _ _=>bne_iff_ne,fun _ _=>bne_eq_false_iff_eq,fun _ _=>ne_eq _ _,fun _ _=>List.length_map _,fun _ _=>List.length_cons,List.length_nil,fun _ _=>List.length_append⟩
end Go.Abs
set_option linter.unusedVariables false
set_option linter.unusedSimpArgs false
namespace Go.Abs
open Go Go.RowKit
variable {P:Program} {w0:World} {p0:Hp}
def E1:Nat:=1048577
def G1:Nat:=1000001
abbrev Ren:=List (Nat×Nat)
def jE (ρ:Ren):Ren:=ρ.map fun x=>(x.2,x.1)
mutual
def AV.ren (ρ:Ren):AV→AV
  | .own g k off n=>match bF ρ g with
    | some g'=>.own g' k off n
    | none=>.bad
  | .ref g k j f=>match bF ρ g with
    | some g'=>.ref g' k j f
    | none=>.bad
  | .agg cs=>.agg (renL ρ cs)
  | .tup cs=>.tup (renL ρ cs)
  | .fn f cs=>.fn f (renL ρ cs)
  | .s v=>.s v
  | .sl k xs=>.sl k xs
  | .adr cs=>.adr cs
  | .bad=>.bad
def renL (ρ:Ren):List AV→List AV
  | []=>[]
  | c::cs=>c.ren ρ::renL ρ cs
end
theorem wD (ρ:Ren):∀ cs:List AV,renL ρ cs=cs.map (AV.ren ρ)
  | []=>rfl
  | c::cs=>by rw[renL,wD ρ cs]; rfl
theorem aBt {ρ:Ren}:∀ {cs:List AV},cs.all AV.still=true→renL ρ cs=cs
  | [],_=>rfl
  | c::cs,h=>by
    rw[List.all_cons,Bool.and_eq_true] at h
    rw[renL,aBt h.2]
    congr 1
    cases c <;> first | rfl | (simp [AV.still] at h)
theorem aHt {ρ:Ren} {c:AV} (h:c.leaf=true):c.ren ρ=c:=by
  cases c <;> first | rfl | (simp [AV.leaf] at h; done) | (rw[AV.ren,aBt h])
theorem RelV.ren {w:World} {p q:Hp} {ρ:Ren} (hs:∀ b,Stable w p b→Stable w q b) (hn:∀ g g' x,bF ρ g=some g'→p.o g=some x→q.o g'=some x) {a:AV} {v:Value} (h:RelV w p a v):RelV w q (a.ren ρ) v:=by
  induction h with
  | s v=>exact .s v
  | agg cs vs hl _ ih =>
    rw[AV.ren,wD]
    refine .agg _ _ (by simpa using hl) fun i c v h1 h2=>?_
    rw[List.getElem?_map] at h1
    cases hi:cs[i]? with
    | none=>simp [hi] at h1
    | some c'=>simp [hi] at h1; subst h1; exact ih i c' v hi h2
  | tup cs vs hl _ ih =>
    rw[AV.ren,wD]
    refine .tup _ _ (by simpa using hl) fun i c v h1 h2=>?_
    rw[List.getElem?_map] at h1
    cases hi:cs[i]? with
    | none=>simp [hi] at h1
    | some c'=>simp [hi] at h1; subst h1; exact ih i c' v hi h2
  | fn f cs vs hl _ ih =>
    rw[AV.ren,wD]
    refine .fn _ _ _ (by simpa using hl) fun i c v h1 h2=>?_
    rw[List.getElem?_map] at h1
    cases hi:cs[i]? with
    | none=>simp [hi] at h1
    | some c'=>simp [hi] at h1; subst h1; exact ih i c' v hi h2
  | sln k a cap hcap=>exact .sln k a cap hcap
  | slc k xs b off cap f hb hn' hcap hkk hc _ ih =>
    refine .slc k xs b off cap f (hs b hb) hn' hcap hkk hc fun j x i c hj hi=>?_
    have:=ih j x i c hj hi
    rwa [aHt ((hkk x (List.mem_of_getElem? hj)).2 c (List.mem_of_getElem? hi))] at this
  | ownn g k hg =>
    rw[AV.ren]; split
    · rename_i g' h; exact .ownn _ _ (hn g g' _ h hg)
    · exact .bad _
  | own g k off n b cap cur T hg h1 h2 h3 h4 =>
    rw[AV.ren]; split
    · rename_i g' h; exact .own _ _ _ _ _ _ _ _ (hn g g' _ h hg) h1 h2 h3 h4
    · exact .bad _
  | own0 g k off b a hg =>
    rw[AV.ren]; split
    · rename_i g' h; exact .own0 _ _ _ _ _ (hn g g' _ h hg)
    · exact .bad _
  | adr cs b off f hb hkk hc _ ih =>
    refine .adr cs b off f (hs b hb) hkk hc fun i c hi=>?_
    have:=ih i c hi
    rwa [aHt (hkk c (List.mem_of_getElem? hi))] at this
  | ref g k j f b hg =>
    rw[AV.ren]; split
    · rename_i g' h; exact .ref _ _ _ _ _ (hn g g' _ h hg)
    · exact .bad _
  | bad v=>exact .bad v
def qI (ρ:Ren):Bool:=decide (ρ.map Prod.fst).Nodup&&decide (ρ.map Prod.snd).Nodup
theorem nN {α:Type}:∀ {l:List (Nat×α)} {k:Nat} {a:α},bF l k=some a→(k,a)∈l
  | [],_,_,h=>by cases h
  | (d,x)::r,k,a,h=>by
    rw[dH] at h
    split at h
    · rename_i e; cases h; subst e; exact List.mem_cons_self
    · exact List.mem_cons_of_mem _ (nN h)
theorem wN {α:Type}:∀ {l:List (Nat×α)} {k:Nat} {a:α},(l.map Prod.fst).Nodup→(k,a)∈l→bF l k=some a
  | (d,x)::r,k,a,hn,h=>by
    rw[dH]
    rw[List.map_cons,List.nodup_cons] at hn
    rcases List.mem_cons.1 h with e | h
    · cases e; rw[if_pos rfl]
    · have:(k:Nat)∈r.map Prod.fst:=List.mem_map.2 ⟨_,h,rfl⟩
      rw[if_neg (fun e=>hn.1 (by rw[e]; exact this)),wN hn.2 h]
theorem aJc (ρ:Ren):(jE ρ).map Prod.fst=ρ.map Prod.snd:=by simp [jE]
theorem aR5 (ρ:Ren):(jE ρ).map Prod.snd=ρ.map Prod.fst:=by simp [jE]
theorem aP5 (ρ:Ren):jE (jE ρ)=ρ:=by simp [jE,Function.comp_def]
theorem kO {ρ:Ren} (h:qI ρ=true) {e g:Nat}:bF (jE ρ) g=some e↔bF ρ e=some g:=by
  simp only[qI,Bool.and_eq_true,decide_eq_true_eq] at h
  constructor
  · intro hl
    have:=nN hl
    simp only[jE,List.mem_map,Prod.mk.injEq,Prod.exists] at this
    obtain ⟨a,b,hm,rfl,rfl⟩:=this
    exact wN h.1 hm
  · intro hl
    exact wN (by rw[aJc]; exact h.2) (List.mem_map.2 ⟨_,nN hl,rfl⟩)
theorem aEq {ρ:Ren} (h:qI ρ=true):qI (jE ρ)=true:=by
  simp only[qI,Bool.and_eq_true,decide_eq_true_eq] at h ⊢
  exact⟨by rw[aJc]; exact h.2,by rw[aR5]; exact h.1⟩
def fG:Ren→Mem→Mem
  | [],_=>[]
  | (e,g)::r,m=>match bF m g with
    | some a=>(e,a)::fG r m
    | none=>fG r m
theorem aH8 {ρ:Ren} {m:Mem} {e:Nat}:e ∉ ρ.map Prod.fst→bF (fG ρ m) e=none:=by
  induction ρ with
  | nil=>intro _; rfl
  | cons x r ih =>
    obtain ⟨e0,g0⟩:=x
    intro h
    simp only[List.map_cons,List.mem_cons,not_or] at h
    rw[fG]; split
    · rw[dH,if_neg (fun e=>h.1 e.symm)]; exact ih h.2
    · exact ih h.2
theorem nM {m:Mem}:∀ {ρ:Ren},(ρ.map Prod.fst).Nodup→∀ e,bF (fG ρ m) e=(bF ρ e).bind (bF m)
  | [],_,_=>rfl
  | (e0,g0)::r,h,e=>by
    rw[List.map_cons,List.nodup_cons] at h
    rw[fG,dH (l:=r)]
    by_cases he:e0=e
    · subst he
      rw[if_pos rfl]
      cases hg:bF m g0 with
      | none=>rw[show bF (match (none:Option AM) with | some a=>(e0,a)::fG r m | none=>fG r m) e0=bF (fG r m) e0 from rfl,aH8 h.1]; exact hg.symm
      | some a=>show bF ((e0,a)::fG r m) e0=_; rw[dH,if_pos rfl]; exact hg.symm
    · rw[if_neg he,← nM h.2 e]
      cases hg:bF m g0 with
      | none=>rfl
      | some a=>show bF ((e0,a)::fG r m) e=_; rw[dH,if_neg he]
def AM.isBuf:AM→Bool
  | .buf _ _=>true
  | _=>false
def aCz (m:Mem):Bool:=m.all fun x=>x.2.isBuf
theorem aE9 {m:Mem} (h:aCz m=true) {g:Nat} {a:AM} (hl:bF m g=some a):a.isBuf=true:=List.all_eq_true.1 h _ (nN hl)
theorem AMRel.rename {w:World} {p q:Hp} (hs:∀ b,Stable w p b→Stable w q b) {g g':Nat} {a:AM} (hb:a.isBuf=true) (ho:∀ x,p.o g=some x→q.o g'=some x) (h:AMRel w p g a):AMRel w q g' a:=by
  cases a with
  | box cs=>cases hb
  | buf k xs =>
    rcases h with ⟨h1,h2⟩ | ⟨b,cur,T,h1,h2,h3,h4,h5⟩
    · exact .inl ⟨h1,ho _ h2⟩
    · refine .inr ⟨b,cur,T,ho _ h1,h2,h3,h4,fun j y i c hy hc=>?_⟩
      obtain ⟨u,hu,hr⟩:=h5 j y i c hy hc
      exact⟨u,hu,hr.move (ok:=fun _=>false) (fun b hb=>⟨hs b hb,rfl⟩) (fun _ _ h _=>by cases h) (AV.clean_of_leaf ((h4 y (List.mem_of_getElem? hy)).2 c (List.mem_of_getElem? hc)))⟩
structure TookX (w:World) (o:aFi) (w':World):Prop where
  os:w'.os=w.os
  tape:w'.tape=w.tape∧w.drawn≤w'.drawn
  output:w'.output=w.output
  size:w.heap.size≤w'.heap.size
  same:∀ b,b<w.heap.size→(∀ g,o g≠some (some b))→w'.heap[b]?=w.heap[b]?
def DenX (P:Program) (f:Nat) (args:List AV) (m0:Mem) (Q:AV→Mem→Prop):Prop :=
  ∀ (A:Nat→Prop) (w:World) (o:aFi) (vals:List Value),(∀ b,A b→b<w.heap.size)→(∀ g,g<E0→o g=none)→MemRel w ⟨o,A⟩ m0→RelL w ⟨o,A⟩ args vals →
    Calls P f vals.toArray w (fun e w'=>∃ v r m1 o',e=.returned v∧Q r m1∧TookX w o w'∧(∀ g b,o' g=some (some b)→(∃ g',o g'=some (some b))∨w.heap.size≤b)∧MemRel w' ⟨o',A⟩ m1∧aCz m1=true∧RelV w' ⟨o',A⟩ r v)
theorem DenX.mono {f:Nat} {args:List AV} {m0:Mem} {Q Q':AV→Mem→Prop} (h:DenX P f args m0 Q) (hq:∀ r m,Q r m→Q' r m):DenX P f args m0 Q' :=
  fun A w o vals h1 h2 h3 h4=>(h A w o vals h1 h2 h3 h4).mono fun e w' ⟨v,r,m1,o',e1,e2,e3⟩=>⟨v,r,m1,o',e1,hq _ _ e2,e3⟩
def retX (P:Program) (fn:Func) (Q:AV→Mem→Prop):Exit→St→Prop
  | .ret,σ=>∃ σ' ρ r,Le σ σ'∧qI ρ=true∧aCz (fG ρ σ'.mem)=true∧vP P fn σ'=some r∧Q (r.ren (jE ρ)) (fG ρ σ'.mem)
  | .normal,σ=>∃ σ' ρ r,Le σ σ'∧qI ρ=true∧aCz (fG ρ σ'.mem)=true∧vP P fn σ'=some r∧Q (r.ren (jE ρ)) (fG ρ σ'.mem)
  | _,_=>False
def via (ρ:Ren) (o:aFi):aFi:=fun g=>(bF ρ g).bind o
theorem qQ {ρ:Ren} {o:aFi} {g:Nat} {x:Option Nat} (h:via ρ o g=some x):∃ e,bF ρ g=some e∧o e=some x:=Option.bind_eq_some_iff.1 h
theorem yU {w:World} {p:Hp} {m:Mem} {A':Nat→Prop} (hm:MemRel w p m) {ρ:Ren} (hρ:qI ρ=true) (hb:aCz (fG ρ m)=true) (hst:∀ b,Stable w p b→Stable w ⟨via ρ p.o,A'⟩ b) (hav:∀ e b,via ρ p.o e=some (some b)→¬ A' b):MemRel w ⟨via ρ p.o,A'⟩ (fG ρ m):=by
  have hn1:(ρ.map Prod.fst).Nodup:=by have:=hρ; simp only[qI,Bool.and_eq_true,decide_eq_true_eq] at this; exact this.1
  refine⟨fun g hl=>?_,fun g a hl=>?_,fun g g' b h1 h2=>?_,fun g b h=>hav g b h⟩
  · rw[nM hn1] at hl
    show (bF ρ g).bind p.o=none
    cases h:bF ρ g with
    | none=>rfl
    | some e=>rw[h] at hl; exact hm.dom e hl
  · have hab:=aE9 hb hl
    rw[nM hn1] at hl
    cases h:bF ρ g with
    | none=>rw[h] at hl; cases hl
    | some e =>
      rw[h] at hl
      exact(hm.holds e a hl).rename hst hab fun x hx=>by show (bF ρ g).bind p.o=some x; rw[h]; exact hx
  · obtain ⟨e1,a1,b1⟩:=qQ h1
    obtain ⟨e2,a2,b2⟩:=qQ h2
    have:=hm.inj e1 e2 b b1 b2
    subst this
    have c1:=(kO hρ).2 a1
    have c2:=(kO hρ).2 a2
    rw[c1] at c2; cases c2; rfl
theorem rN {w:World} {p:Hp} {ρ:Ren} {b:Nat} (h:Stable w p b):Stable w ⟨via ρ p.o,p.A⟩ b:=⟨h.1,fun g hg=>by obtain ⟨e,_,h2⟩:=qQ hg; exact h.2.1 e h2,h.2.2⟩
theorem aCb {w:World} {p:Hp} {m:Mem} (hm:MemRel w p m) {ρ:Ren} (hρ:qI ρ=true) (hb:aCz (fG ρ m)=true):MemRel w ⟨via ρ p.o,p.A⟩ (fG ρ m) :=
  yU hm hρ hb (fun _ h=>rN h) fun e b h=>by obtain ⟨g,_,h2⟩:=qQ h; exact hm.avoid g b h2
theorem aHu {w:World} {p:Hp} {ρ:Ren} (hρ:qI ρ=true) {a:AV} {v:Value} (h:RelV w p a v):RelV w ⟨via ρ p.o,p.A⟩ (a.ren (jE ρ)) v :=
  h.ren (fun b hb=>rN hb) fun g g' x hl hx=>by show (bF ρ g').bind p.o=some x; rw[(kO hρ).1 hl]; exact hx
def lows (ρ:Ren):Bool:=ρ.all fun x=>Nat.ble (x.2+1) E0
theorem lows_of {ρ:Ren} (h:lows ρ=true) {e g:Nat} (hl:bF ρ e=some g):g<E0:=Nat.le_of_ble_eq_true (List.all_eq_true.1 h _ (nN hl))
theorem iL {f:Nat} {fn:Func} {c:Code} {args args':List AV} {m0 m':Mem} {Q:AV→Mem→Prop} (ρ:Ren) (hf:P.funcs[f]?=some fn) (hb:fn.body=some c) (hn:args.length≤fn.ntmps) (hargs:args.map (AV.ren ρ)=args') (hm':fG (jE ρ) m0=m')
    (hρ:qI ρ=true) (hlo:lows ρ=true) (hbf:aCz m'=true)
    (h:∀ w0 o A,Fit w0 ⟨o,A⟩→AW P w0 ⟨o,A⟩ c ⟨fn.ntmps,gB 0 args',m'⟩ (retX P fn Q)):DenX P f args m0 Q:=by
  subst hargs; subst hm'
  intro A w o vals hA hdom hmem hr
  refine calls_of_wp hf hb ?_
  have hfit:Fit w ⟨o,A⟩:=⟨hdom,hA⟩
  have hfl:qI (jE ρ)=true:=aEq hρ
  have hrel:Rel w ⟨o,A⟩ ⟨fn.ntmps,gB 0 (args.map (AV.ren ρ)),fG (jE ρ) m0⟩ { tmps:=vals.toArray++Array.replicate (fn.ntmps - vals.toArray.size) undef,defers:=[] } w:=by
    refine⟨rfl,by have:=hr.1; simp; omega,⟨via (jE ρ) o,A⟩,⟨rfl,⟨rfl,Nat.le_refl _⟩,rfl,Nat.le_refl _,rfl,fun b hb=>⟨rN (p:=⟨o,A⟩) hb,rfl⟩,fun _ _ _=>rfl,fun g y hg=>?_⟩,fun t a ht=>?_,aCb (p:=⟨o,A⟩) hmem hfl hbf⟩
    · left
      show (bF (jE ρ) g).bind o=none
      cases hl:bF (jE ρ) g with
      | none=>rfl
      | some e =>
        have hg0:=hdom g (lows_of hlo ((kO hρ).1 hl))
        rw[show o g=some y from hg] at hg0
        cases hg0
    · obtain ⟨_,ht⟩:=iX _ 0 t a ht
      simp only[Nat.sub_zero] at ht
      rw[List.getElem?_map] at ht
      cases hi:args[t]? with
      | none=>simp [hi] at ht
      | some c' =>
        simp [hi] at ht; subst ht
        have hlt:t<vals.length:=by rw[← hr.1]; exact(List.getElem?_eq_some_iff.1 hi).1
        refine⟨vals[t]'hlt,by rw[Array.getElem?_append_left (by simpa using hlt)]; simp [hlt],?_⟩
        have:=aHu (p:=⟨o,A⟩) hfl (hr.2 t c' (vals[t]'hlt) hi (by simp [hlt]))
        rwa [aP5] at this
  refine wp_mono (h w o A hfit _ w hrel) ?_
  rintro e a' w' ⟨σ',hq,hrel'⟩
  have fin:(∃ σ'' ρ r,Le σ' σ''∧qI ρ=true∧aCz (fG ρ σ''.mem)=true∧vP P fn σ''=some r∧Q (r.ren (jE ρ)) (fG ρ σ''.mem))→a'.defers=[]∧∃ v,(results fn a'.tmps).run P w'=.ok v w' ∧
      ∃ v' r m1 o',Ending.returned v=.returned v'∧Q r m1∧TookX w o w'∧(∀ g b,o' g=some (some b)→(∃ g',o g'=some (some b))∨w.heap.size≤b)∧MemRel w' ⟨o',A⟩ m1∧aCz m1=true∧RelV w' ⟨o',A⟩ r v':=by
    rintro ⟨σ'',ρ',r,hle,hρ',hbs,hres,hQ⟩
    obtain ⟨h1,h2,p,hE,hs,hm⟩:=hle _ _ _ _ hrel'
    obtain ⟨v,hv,hrv⟩:=tG hs hm _ hres
    have hpA:p.A=A:=hE.A
    have hm1:=aCb hm hρ' hbs
    have hr1:=aHu hρ' hrv
    rw[hpA] at hm1 hr1
    refine⟨h1,v,hv,v,_,_,via ρ' p.o,rfl,hQ,⟨hE.os,hE.tape,hE.output,hE.size,fun b hb hno=>?_⟩,fun g b hg=>?_,hm1,hbs,hr1⟩
    · by_cases hAb:A b
      · exact hE.others b hb hAb
      · exact(hE.stab b ⟨hb,hno,hAb⟩).2
    · obtain ⟨e,_,he⟩:=qQ hg
      by_cases hb:b<w.heap.size
      · left
        by_cases hno:∃ g',o g'=some (some b)
        · exact hno
        · exfalso
          by_cases hAb:A b
          · exact hm.avoid e b he (hpA ▸ hAb)
          · exact(hE.stab b ⟨hb,fun g' hg'=>hno ⟨g',hg'⟩,hAb⟩).1.2.1 e he
      · right; omega
  cases e with
  | normal=>exact fin hq
  | ret=>exact fin hq
  | _=>exact hq.elim
def aIj (ks:List Nat) (a:AV):AV:=if a.clean (fun x=>!ks.contains x)=true then a else .bad
def pD (ks:List Nat):List (Nat×AV)→List (Nat×AV)
  | []=>[]
  | (t,a)::r=>(t,aIj ks a)::pD ks r
def aOo (ks:List Nat):AM→AM
  | .box cs=>.box (cs.map (aIj ks))
  | .buf k xs=>.buf k xs
def mI (ks:List Nat):Mem→Mem
  | []=>[]
  | (g,m)::r=>if ks.contains g=true then mI ks r else (g,aOo ks m)::mI ks r
theorem sF (ks:List Nat):∀ (l:List (Nat×AV)) (t:Nat),bF (pD ks l) t=(bF l t).map (aIj ks)
  | [],_=>rfl
  | (d,a)::r,t=>by
    simp only[pD,bF]
    split
    · rfl
    · exact sF ks r t
theorem nE (ks:List Nat):∀ (l:Mem) (t:Nat),bF (mI ks l) t=if ks.contains t=true then none else (bF l t).map (aOo ks)
  | [],t=>by simp [mI,bF]
  | (d,m)::r,t=>by
    rw[mI]
    by_cases e:ks.contains d=true
    · rw[if_pos e,nE ks r t]
      by_cases et:ks.contains t=true
      · rw[if_pos et,if_pos et]
      · rw[if_neg et,if_neg et,dH,if_neg (fun h=>et (by rw[← h]; exact e))]
    · rw[if_neg e,dH,dH,nE ks r t]
      by_cases h:d=t
      · subst h; rw[if_pos rfl,if_pos rfl,if_neg e]; rfl
      · rw[if_neg h,if_neg h]
theorem tB {α:Type}:∀ (a b:List (Nat×α)) (t:Nat),bF (a++b) t=match bF a t with | some x=>some x | none=>bF b t
  | [],_,_=>rfl
  | (d,x)::r,b,t=>by
    rw[List.cons_append,dH,dH]
    by_cases h:d=t
    · rw[if_pos h,if_pos h]
    · rw[if_neg h,if_neg h,tB r b t]
def ends (ρ:Ren):List Nat:=ρ.map Prod.snd
theorem aJh {ρ:Ren} (h:qI ρ=true) {g:Nat}:(ends ρ).contains g=true↔∃ e,bF ρ e=some g:=by
  have hn:(ρ.map Prod.fst).Nodup:=by have:=h; simp only[qI,Bool.and_eq_true,decide_eq_true_eq] at this; exact this.1
  simp only[List.contains_iff_mem,ends,List.mem_map,Prod.exists,exists_eq_right]
  exact⟨fun⟨e,he⟩=>⟨e,wN hn he⟩,fun⟨e,he⟩=>⟨e,nN he⟩⟩
def frees (ρ ρ':Ren) (m:Mem):Bool:=ρ'.all fun x=>Nat.ble (x.2+1) E0&&((bF m x.2).isNone||(ends ρ).contains x.2)
def highs (ρ:Ren):Bool:=ρ.all fun x=>Nat.ble E0 x.1
theorem yY {ks:List Nat} {w w':World} {p q:Hp} (hmv:∀ a v,RelV w p a v→a.clean (fun x=>!ks.contains x)=true→RelV w' q a v) {a:AV} {v:Value} (h:RelV w p a v):RelV w' q (aIj ks a) v:=by
  unfold aIj
  split
  · rename_i hc; exact hmv a v h hc
  · exact .bad v
theorem aQn {o:Oper} {σ:St} {K:St→Prop} (hf:Fit w0 p0) {fo:Operand} {xs:List Operand} {ts:Array TypeId} {f d:Nat} {cap args:List AV} {m0:Mem} {Q:AV→Mem→Prop} (ρ ρ':Ren)
    (ho:o.op=.call { callee:=.value fo,args:=xs.toArray,argTypes:=ts }) (hdst:o.dst=some d) (hd:d<σ.n)
    (hent:∀ args w,(callFunc f args).run P w=.ok (.enter f args) w) (hfo:σ.ev fo=.fn f cap) (hargs:(xs.map σ.ev++cap).map (AV.ren (jE ρ))=args) (hm0:fG ρ σ.mem=m0) (hbf:aCz m0=true)
    (hρ:qI ρ=true) (hhi:highs ρ=true) (hρ':qI ρ'=true) (hfr:frees ρ ρ' σ.mem=true)
    (hden:DenX P f args m0 Q) (hK:∀ r m1,Q r m1→K ⟨σ.n,(d,r.ren ρ')::pD (ends ρ) σ.slots,fG (jE ρ') m1++mI (ends ρ) σ.mem⟩):AOp P w0 p0 o σ K:=by
  subst hm0
  intro a w next Q' ⟨h1,h2,p,hE,hs,hm⟩ hn
  obtain ⟨vals,hrun,hrel⟩:=pJ (P:=P) ho hent hs hfo
  unfold Oper.wp
  rw[hrun]
  simp only[Oper.upon]
  -- what the call is given,and what it is not
  let B:Nat→Prop:=fun b=>p.A b∨∃ g,(ends ρ).contains g≠true∧p.o g=some (some b)
  have hviaE:∀ g b,via ρ p.o g=some (some b)→∃ g',(ends ρ).contains g'=true∧p.o g'=some (some b):=fun g b hg=>by
    obtain ⟨e,he1,he2⟩:=qQ hg
    exact⟨e,(aJh hρ).2 ⟨g,he1⟩,he2⟩
  have hEvia:∀ g b,(ends ρ).contains g=true→p.o g=some (some b)→∃ e,via ρ p.o e=some (some b):=fun g b hg hb=>by
    obtain ⟨e,he⟩:=(aJh hρ).1 hg
    exact⟨e,by show (bF ρ e).bind p.o=_; rw[he]; exact hb⟩
  have hBlt:∀ b,B b→b<w.heap.size:=fun b hb=>by
    rcases hb with hb | ⟨g',_,hg'⟩
    · exact Nat.lt_of_lt_of_le (hf.others b (hE.A ▸ hb)) hE.size
    · exact hm.lt hg'
  have hstB:∀ b,Stable w p b→Stable w ⟨via ρ p.o,B⟩ b:=fun b hb=>⟨hb.1,(rN (ρ:=ρ) hb).2.1,fun h=>h.elim hb.2.2 fun⟨g,_,hg⟩=>hb.2.1 g hg⟩
  have hvB:∀ e b,via ρ p.o e=some (some b)→¬ B b:=fun e b he h=>by
    obtain ⟨g2,h2,h3⟩:=hviaE e b he
    rcases h with h | ⟨g',hg',hb'⟩
    · exact hm.avoid g2 b h3 h
    · exact hg' (hm.inj g2 g' b h3 hb' ▸ h2)
  have hmem0:MemRel w ⟨via ρ p.o,B⟩ (fG ρ σ.mem):=yU hm hρ hbf hstB hvB
  have hdom:∀ g,g<E0→via ρ p.o g=none:=fun g hg=>by
    show (bF ρ g).bind p.o=none
    cases hl:bF ρ g with
    | none=>rfl
    | some e =>
      have:=Nat.le_of_ble_eq_true (List.all_eq_true.1 hhi _ (nN hl))
      exact absurd hg (by simp only at this; omega)
  refine(hden B w (via ρ p.o) vals hBlt hdom hmem0 ?_).mono ?_
  · rw[← hargs]
    refine⟨by simpa using hrel.1,fun i c v hc hv=>?_⟩
    rw[List.getElem?_map] at hc
    cases hi:(xs.map σ.ev++cap)[i]? with
    | none=>simp [hi] at hc
    | some c' =>
      simp [hi] at hc; subst hc
      exact(hrel.2 i c' v hi hv).ren hstB fun g g' x hl hx=>by show (bF ρ g').bind p.o=some x; rw[(kO hρ).1 hl]; exact hx
  rintro e w' ⟨v,r,m1,o',rfl,hQ,hT,ho',hM,hbm,hr⟩
  have hsame:∀ b,b<w.heap.size→(∀ g,(ends ρ).contains g=true→p.o g≠some (some b))→w'.heap[b]?=w.heap[b]?:=fun b hb h=>hT.same b hb fun g hg=>by
    obtain ⟨g',h1,h2⟩:=hviaE g b hg
    exact h g' h1 h2
  let q:Hp:=⟨fun g=>match bF (jE ρ') g with | some e=>o' e | none=>if (ends ρ).contains g=true then none else p.o g,p.A⟩
  have hq1:∀ g e,bF (jE ρ') g=some e→q.o g=o' e:=fun g e h=>by simp only[q,h]
  have hq2:∀ g,bF (jE ρ') g=none→(ends ρ).contains g=true→q.o g=none:=fun g h h'=>by simp only[q,h,h',if_true]
  have hq3:∀ g,bF (jE ρ') g=none→(ends ρ).contains g≠true→q.o g=p.o g:=fun g h h'=>by simp only[q,h]; rw[if_neg h']
  have hqc:∀ g x,q.o g=some x→(∃ e,bF (jE ρ') g=some e∧o' e=some x)∨(bF (jE ρ') g=none∧(ends ρ).contains g≠true∧p.o g=some x):=fun g x h=>by
    cases hl:bF (jE ρ') g with
    | some e=>rw[hq1 g e hl] at h; exact .inl ⟨e,rfl,h⟩
    | none =>
      by_cases hc:(ends ρ).contains g=true
      · rw[hq2 g hl hc] at h; cases h
      · rw[hq3 g hl hc] at h; exact .inr ⟨rfl,hc,h⟩
  have hnew:∀ g e,bF (jE ρ') g=some e→g<E0∧(bF σ.mem g=none∨(ends ρ).contains g=true):=fun g e h=>by
    have:=List.all_eq_true.1 hfr _ (nN ((kO hρ').1 h))
    simp only[Bool.and_eq_true,Bool.or_eq_true,Option.isNone_iff_eq_none] at this
    exact⟨Nat.le_of_ble_eq_true this.1,this.2⟩
  have hkeepn:∀ g x,(ends ρ).contains g≠true→p.o g=some x→q.o g=some x:=fun g x hc hx=>by
    have:bF (jE ρ') g=none:=by
      cases hl:bF (jE ρ') g with
      | none=>rfl
      | some e =>
        rcases (hnew g e hl).2 with h | h
        · rw[hm.dom g h] at hx; cases hx
        · exact absurd h hc
    rw[hq3 g this hc]; exact hx
  have holdb:∀ g b,(ends ρ).contains g≠true→p.o g=some (some b)→w'.heap[b]?=w.heap[b]?:=fun g b hc hb=>hsame b (hm.lt hb) fun g' hg' hb'=>hc (hm.inj g' g b hb' hb ▸ hg')
  have ho2:∀ e b,o' e=some (some b)→(∃ g',(ends ρ).contains g'=true∧p.o g'=some (some b))∨w.heap.size≤b:=fun e b h=>by
    rcases ho' e b h with ⟨g',hg'⟩ | h
    · exact .inl (hviaE g' b hg')
    · exact .inr h
  have hstq:∀ b,Stable w p b→Stable w' q b∧w'.heap[b]?=w.heap[b]?:=fun b hb=>by
    refine⟨⟨Nat.lt_of_lt_of_le hb.1 hT.size,fun g hg=>?_,hb.2.2⟩,hsame b hb.1 fun g _=>hb.2.1 g⟩
    rcases hqc g _ hg with ⟨e,_,he⟩ | ⟨_,_,he⟩
    · rcases ho2 e b he with ⟨g',_,h⟩ | h
      · exact hb.2.1 g' h
      · exact absurd hb.1 (by omega)
    · exact hb.2.1 g he
  have hmv:∀ a v,RelV w p a v→a.clean (fun x=>!(ends ρ).contains x)=true→RelV w' q a v:=fun a v hr hc =>
    hr.move (ok:=fun x=>!(ends ρ).contains x) hstq (fun g x hok hx=>by
      have hc:(ends ρ).contains g≠true:=by simpa using hok
      exact⟨hkeepn g x hc hx,fun b hb cur T hh=>⟨cur,by subst hb; rw[holdb g b hc hx]; exact hh,rfl⟩⟩) hc
  have hE':Ext w0 p0 w' q:=by
    refine⟨hT.os.trans hE.os,⟨hT.tape.1.trans hE.tape.1,Nat.le_trans hE.tape.2 hT.tape.2⟩,hT.output.trans hE.output,Nat.le_trans hE.size hT.size,hE.A,fun b hb=>?_,fun b hb hAb=>?_,fun g' y hy=>?_⟩
    · have hst:=(hE.stab b hb).1
      exact⟨(hstq b hst).1,(hstq b hst).2.trans (hE.stab b hb).2⟩
    · rw[hsame b (Nat.lt_of_lt_of_le hb hE.size) fun g _ h=>hm.avoid g b h (hE.A ▸ hAb)]; exact hE.others b hb hAb
    · have hlf:bF (jE ρ') g'=none:=by
        cases hl:bF (jE ρ') g' with
        | none=>rfl
        | some e=>rw[hf.names g' (hnew g' e hl).1] at hy; cases hy
      by_cases hc:(ends ρ).contains g'=true
      · exact .inl (hq2 g' hlf hc)
      · rw[hq3 g' hlf hc]
        rcases hE.name g' y hy with h | ⟨h,h'⟩
        · exact .inl h
        · refine .inr ⟨h,fun b hb cur T hh=>?_⟩
          obtain ⟨c1,e1,s1⟩:=h' b hb cur T hh
          subst hb
          exact⟨c1,by rw[holdb g' b hc h]; exact e1,s1⟩
  have hstr:∀ b,Stable w' ⟨o',B⟩ b→Stable w' q b:=fun b hb=>by
    refine⟨hb.1,fun g hg=>?_,fun h=>hb.2.2 (.inl h)⟩
    rcases hqc g _ hg with ⟨e,_,he⟩ | ⟨_,hc,he⟩
    · exact hb.2.1 e he
    · exact hb.2.2 (.inr ⟨g,hc,he⟩)
  have hn1:((jE ρ').map Prod.fst).Nodup:=by have:=aEq hρ'; simp only[qI,Bool.and_eq_true,decide_eq_true_eq] at this; exact this.1
  have hm':MemRel w' q (fG (jE ρ') m1++mI (ends ρ) σ.mem):=by
    refine⟨fun g hl=>?_,fun g a hl=>?_,fun g g' b e1 e2=>?_,fun g b hg=>?_⟩
    · rw[tB,nM hn1] at hl
      cases hg:bF (jE ρ') g with
      | some e =>
        rw[hq1 g e hg]
        rw[hg] at hl
        cases he:bF m1 e with
        | none=>exact hM.dom e he
        | some a=>simp [he] at hl
      | none =>
        rw[hg] at hl
        simp only[Option.bind_none,nE] at hl
        by_cases hc:(ends ρ).contains g=true
        · exact hq2 g hg hc
        · rw[hq3 g hg hc]
          rw[if_neg hc] at hl
          exact hm.dom g (by simpa using hl)
    · rw[tB,nM hn1] at hl
      have hold:bF (mI (ends ρ) σ.mem) g=some a→AMRel w' q g a:=fun hl=>by
        rw[nE] at hl
        split at hl
        · cases hl
        · rename_i hc
          cases h0:bF σ.mem g with
          | none=>rw[h0] at hl; cases hl
          | some a0 =>
            rw[h0] at hl
            have hA:=hm.holds g a0 h0
            cases a0 with
            | box cs =>
              simp [aOo] at hl; subst hl
              obtain ⟨b,cur,T,e1,e2,e3,e4⟩:=hA
              refine⟨b,cur,T,hkeepn g _ hc e1,by rw[holdb g b hc e1]; exact e2,by simpa using e3,fun i c hc'=>?_⟩
              rw[List.getElem?_map] at hc'
              cases hi:cs[i]? with
              | none=>simp [hi] at hc'
              | some c' =>
                simp [hi] at hc'; subst hc'
                obtain ⟨u,hu,hr⟩:=e4 i c' hi
                exact⟨u,hu,yY hmv hr⟩
            | buf k xs =>
              simp [aOo] at hl; subst hl
              rcases hA with ⟨e0,e1⟩ | ⟨b,cur,T,e1,e2,e3,e4,e5⟩
              · exact .inl ⟨e0,hkeepn g _ hc e1⟩
              · exact .inr ⟨b,cur,T,hkeepn g _ hc e1,by rw[holdb g b hc e1]; exact e2,e3,e4,fun j x i c hx hc'=>by
                  obtain ⟨u,hu,hr⟩:=e5 j x i c hx hc'
                  exact⟨u,hu,hmv c u hr (AV.clean_of_leaf ((e4 x (List.mem_of_getElem? hx)).2 c (List.mem_of_getElem? hc')))⟩⟩
      cases hg:bF (jE ρ') g with
      | none=>rw[hg] at hl; exact hold hl
      | some e =>
        rw[hg] at hl
        cases he:bF m1 e with
        | none=>simp only[Option.bind_some,he] at hl; exact hold hl
        | some a1 =>
          simp only[Option.bind_some,he] at hl; cases hl
          exact(hM.holds e _ he).rename hstr (aE9 hbm he) fun x hx=>by rw[hq1 g e hg]; exact hx
    · rcases hqc g _ e1 with ⟨a1,l1,b1⟩ | ⟨l1,c1,b1⟩ <;> rcases hqc g' _ e2 with ⟨a2,l2,b2⟩ | ⟨l2,c2,b2⟩
      · have:=hM.inj a1 a2 b b1 b2
        subst this
        have d1:=(kO hρ').1 l1
        have d2:=(kO hρ').1 l2
        rw[d1] at d2; cases d2; rfl
      · exfalso
        rcases ho2 a1 b b1 with ⟨g2,h3,h4⟩ | h
        · exact c2 (hm.inj g2 g' b h4 b2 ▸ h3)
        · have:=hm.lt b2; omega
      · exfalso
        rcases ho2 a2 b b2 with ⟨g2,h3,h4⟩ | h
        · exact c1 (hm.inj g2 g b h4 b1 ▸ h3)
        · have:=hm.lt b1; omega
      · exact hm.inj g g' b b1 b2
    · rcases hqc g _ hg with ⟨a1,_,b1⟩ | ⟨_,_,b1⟩
      · exact fun h=>hM.avoid a1 b b1 (.inl h)
      · exact hm.avoid g b b1
  have hr':RelV w' q (r.ren ρ') v:=hr.ren hstr fun g g' x hl hx=>by rw[hq1 g' g ((kO hρ').2 hl)]; exact hx
  refine hn _ _ _ (hK r m1 hQ) ?_
  rw[hdst]
  refine⟨h1,by simpa [Act.put] using h2,q,hE',SlotsRel.put (fun t b hb=>?_) (by rw[h2]; exact hd) hr',hm'⟩
  rw[sF] at hb
  cases hl:bF σ.slots t with
  | none=>simp [hl] at hb
  | some c =>
    simp [hl] at hb; subst hb
    obtain ⟨u,hu,hr⟩:=hs t c hl
    exact⟨u,hu,yY hmv hr⟩
section
variable {n:Nat} {sl:List (Nat×AV)} {m:Mem} {ops:Array Oper} {rest:List Oper} {Q:Exit→St→Prop} {d ty:Nat} {ps:String} {af:Array Edge}
theorem iQ (hf:Fit w0 p0) {fo:Operand} {xs:List Operand} {ts:Array TypeId} {f:Nat} {cap args args':List AV} {m0:Mem} {R:AV→Mem→Prop} (ρ ρ':Ren) (hd:lt d n=true) (hfo:ev sl fo=some (.fn f cap)) (hargs:evs sl cap xs=some args)
    (hren:args.map (AV.ren (jE ρ))=args') (hm0:fG ρ m=m0) (hbf:aCz m0=true) (hρ:qI ρ=true) (hhi:highs ρ=true) (hρ':qI ρ'=true) (hfr:frees ρ ρ' m=true)
    (hent:∀ args w,(callFunc f args).run P w=.ok (.enter f args) w) (hden:DenX P f args' m0 R) (hk:∀ r m1,R r m1→eW P w0 p0 ops rest ⟨n,(d,r.ren ρ')::pD (ends ρ) sl,fG (jE ρ') m1++mI (ends ρ) m⟩ Q) :
    eW P w0 p0 ops (⟨some d,.call { callee:=.value fo,args:=xs.toArray,argTypes:=ts },ty,ps,af,none⟩::rest) ⟨n,sl,m⟩ Q :=
  fD rfl (aQn hf ρ ρ' rfl rfl (oF hd) hent (cO hfo) (by rw[rX hargs]; exact hren) hm0 hbf hρ hhi hρ' hfr hden hk)
end
end Go.Abs
set_option linter.unusedVariables false
set_option linter.unusedSimpArgs false
namespace Go.Abs
open Go Go.RowKit
variable {P:Program} {w0:World} {p0:Hp}
theorem bC {ops:Array Oper} {Q:Exit→St→Prop} {fuel0:Nat} {listed0:Array Bool} {σ0:St} (fuel:Nat) (listed:Array Bool) (σ:St) (h:oJ P w0 p0 ops Q fuel listed σ)
    (k:oJ P w0 p0 ops Q fuel listed σ→oJ P w0 p0 ops Q fuel0 listed0 σ0):oJ P w0 p0 ops Q fuel0 listed0 σ0:=k h
theorem aFb {c:Code} {σ σ':St} {Q:Exit→St→Prop} (hl:Le σ σ') (h:AW P w0 p0 c σ' Q):AW P w0 p0 c σ Q:=fun a w hr=>h a w (hl _ _ _ _ hr)
theorem aB8 {ok:Nat→Bool} {mem:Mem} {g k n:Nat} {xs:List (List AV)} (hok:ok g=false) (hl:bF mem g=some (.buf k xs)) (hn:n=xs.length):(AV.own g k 0 n).only ok mem=.sl k xs:=by
  subst hn
  rw[AV.only,hok]
  simp [hl]
section
variable {n:Nat} {sl:List (Nat×AV)} {m:Mem} {d ty:Nat} {ps:String} {af:Array Edge} {gd:Option (Nat×Bool)}
end
theorem aM4 {f k:Nat} {a rest:List AV} {Q:AV→Prop} (h:Den P f (a++.sl k []::rest) Q):Den P f (a++.s (.slice none 0 0)::rest) Q:=by
  intro A w vals hA hr
  refine h A w vals hA ⟨by have:=hr.1; simpa using this,fun i c v hc hv=>?_⟩
  by_cases hi:i=a.length
  · subst hi
    have h1:=hr.2 a.length (.s (.slice none 0 0)) v (by simp) hv
    simp at hc; subst hc
    cases h1
    exact .sln k none 0 (by simp [maxLen])
  · refine hr.2 i c v ?_ hv
    rw[← hc]
    rcases Nat.lt_or_ge i a.length with h2 | h2
    · rw[List.getElem?_append_left h2,List.getElem?_append_left h2]
    · rw[List.getElem?_append_right h2,List.getElem?_append_right h2]
      cases hj:i - a.length with
      | zero=>omega
      | succ j=>rfl
theorem aRw {n:Nat} {sl:List (Nat×AV)} {m:Mem} {d:Nat} {a:AV} (h:lk sl d=some a):Le ⟨n,sl,m⟩ ⟨n,(d,a)::sl,m⟩:=fun w0 p0 act w ⟨h1,h2,p,hE,hs,hm⟩=>⟨h1,h2,p,hE,fun t b hb=>by
  rw[dH] at hb
  split at hb
  · rename_i e; subst e; cases hb; exact hs d a (by rw[← kE]; exact h)
  · exact hs t b hb,hm⟩
theorem cM {x y:Code} {d:Nat} {n:Nat} {sl:List (Nat×AV)} {m:Mem} {Q:Exit→St→Prop} {t:Bool} (hc:ev sl (.tmp d)=some (.s (.bool t))) (hc2:lk sl d=some (.s (.bool t))) (h1:t=true→AW P w0 p0 x ⟨n,(d,.s (.bool true))::sl,m⟩ Q) (h2:t=false→AW P w0 p0 y ⟨n,(d,.s (.bool false))::sl,m⟩ Q):AW P w0 p0 (.cond (.tmp d) x y) ⟨n,sl,m⟩ Q :=
  aI hc (fun h=>aFb (aRw (by rw[hc2,h])) (h1 h)) (fun h=>aFb (aRw (by rw[hc2,h])) (h2 h))
theorem iS {n t:Nat} {a a':AV} {sl:List (Nat×AV)} {m:Mem} (h:∀ w p v,RelV w p a v→RelV w p a' v):Le ⟨n,(t,a)::sl,m⟩ ⟨n,(t,a')::sl,m⟩:=fun w0 p0 act w ⟨h1,h2,p,hE,hs,hm⟩=>⟨h1,h2,p,hE,fun t' b hb=>by
  have hb':bF ((t,a')::sl) t'=some b:=hb
  rw[dH] at hb'
  split at hb'
  · rename_i e; subst e; cases hb'
    obtain ⟨v,hv,hr⟩:=hs t a (by show bF ((t,a)::sl) t=_; rw[dH,if_pos rfl])
    exact⟨v,hv,h w p v hr⟩
  · rename_i hne
    exact hs t' b (by show bF ((t,a)::sl) t'=_; rw[dH,if_neg hne]; exact hb'),hm⟩
end Go.Abs
set_option linter.unusedVariables false
set_option linter.unusedSimpArgs false
namespace Go.Abs
open Go Go.RowKit
variable {P:Program} {w0:World} {p0:Hp}
section
variable {n:Nat} {sl:List (Nat×AV)} {m:Mem} {cs:List AV} {Q:Exit→St→Prop} {ops:Array Oper} {rest:List Oper}
end
theorem aPu {n:Nat} {sl:List (Nat×AV)} {m:Mem} {cs:List AV} (g:Nat) (cs':List AV) (hg:lk m g=some (.box cs)) (h:∀ w p v,RelV w p (.agg cs) v→RelV w p (.agg cs') v):Le ⟨n,sl,m⟩ ⟨n,sl,mE g (.box cs') m⟩:=by
  intro w0 p0 a w ⟨h1,h2,p,hX,hs,hm⟩
  rw[kE] at hg
  have hsome:(bF m g).isSome=true:=by rw[hg]; rfl
  refine⟨h1,h2,p,hX,hs,⟨fun t ht=>?_,fun t mm ht=>?_,hm.inj,hm.avoid⟩⟩
  · replace ht:bF (mE g _ m) t=none:=ht
    rw[hU _ _ _ hsome] at ht
    split at ht
    · cases ht
    · exact hm.dom t ht
  · replace ht:bF (mE g _ m) t=some mm:=ht
    rw[hU _ _ _ hsome] at ht
    split at ht
    · rename_i e; subst e; cases ht
      obtain ⟨b,cur,T,e1,e2,e3,e4⟩:=hm.holds t _ hg
      have hr:RelV w p (.agg cs) (.agg cur):=.agg _ _ e3 fun i c v hc hv=>by
        obtain ⟨v',v1,v2⟩:=e4 i c hc
        rw[v1] at hv; cases hv; exact v2
      have:=h w p _ hr
      cases this with
      | agg _ _ hl hh =>
        refine⟨b,cur,T,e1,e2,hl,fun i c hc=>?_⟩
        have hi:i<cur.size:=by rw[← hl]; exact(List.getElem?_eq_some_iff.1 hc).1
        exact⟨cur[i],by simp [hi],hh i c _ hc (by simp [hi])⟩
    · exact hm.holds t mm ht
end Go.Abs
set_option linter.unusedVariables false
set_option linter.unusedSimpArgs false
namespace Go.Abs
open Go Go.RowKit
variable {P:Program} {w0:World} {p0:Hp}
structure Tf where
  c:Nat
  ag:Bool
  e:Option Nat
  fl:List (Nat×Nat)
abbrev Fx:=List (Nat×Tf)
def aR6 (P:Program) (t:Nat):Nat→List (Nat×Nat)→Bool
  | _,[]=>true
  | i,q::r=>decide (field? P t i=some q)&&aR6 P t (i+1) r
def tfOk (P:Program) (x:Nat×Tf):Bool :=
  decide (cells? P x.1=some x.2.c)&&(decide (agg? P x.1=some x.2.ag)&&((match x.2.e with | none=>true | some e=>decide (elem? P x.1=some e))&&aR6 P x.1 0 x.2.fl))
def aMu (P:Program) (F:Fx):Bool:=F.all (tfOk P)
theorem aRu {α:Type}:∀ {l:List (Nat×α)} {t:Nat} {a:α},lk l t=some a→(t,a)∈l
  | [],_,_,h=>by cases h
  | (d,b)::r,t,a,h=>by
    simp only[lk] at h
    split at h
    · rename_i e; cases h; rw[Nat.eq_of_beq_eq_true e]; exact List.mem_cons_self ..
    · exact List.mem_cons_of_mem _ (aRu h)
theorem aGd {t:Nat}:∀ {l:List (Nat×Nat)} {i j:Nat} {q:Nat×Nat},aR6 P t i l=true→l[j]?=some q→field? P t (i+j)=some q
  | [],_,_,_,_,h=>by simp at h
  | x::r,i,j,q,h,hj=>by
    simp only[aR6,Bool.and_eq_true,decide_eq_true_eq] at h
    cases j with
    | zero=>simp at hj; subst hj; exact h.1
    | succ j =>
      have:=aGd h.2 (j:=j) (by simpa using hj)
      rw[show i+(j+1)=i+1+j by omega]; exact this
section
variable {F:Fx} {t:Nat} {f:Tf}
theorem vK (hF:aMu P F=true) (h:lk F t=some f):cells? P t=some f.c∧agg? P t=some f.ag∧(∀ e,f.e=some e→elem? P t=some e)∧aR6 P t 0 f.fl=true:=by
  have:=List.all_eq_true.1 hF _ (aRu h)
  simp only[tfOk,Bool.and_eq_true,decide_eq_true_eq] at this
  refine⟨this.1,this.2.1,fun e he=>?_,this.2.2.2⟩
  have h2:=this.2.2.1
  rw[he] at h2
  simpa using h2
end
def sbin (op:BinOp) (u v:Value):Option Value :=
  match u,v with
  | .int k a,.int k' b=>if k=k' then (match op with | .eql=>some (.bool (a == b)) | .neq=>some (.bool (a != b)) | .lss=>yE .lss k a b | .leq=>yE .leq k a b | .gtr=>yE .gtr k a b | .geq=>yE .geq k a b | _=>none) else none
  | .string a,.string b=>astr op a b
  | _,_=>none
theorem aPa {op:BinOp} {t:TypeId} {u v r:Value} (h:sbin op u v=some r):tH P op t u v=some r:=by
  cases u <;> cases v <;> simp only[sbin,reduceCtorEq] at h <;> simp only[tH]
  · split at h
    · rename_i e; rw[if_pos e]
      cases op <;> first | exact h | (simp at h)
    · cases h
  · exact h
def ldv (f:Tf) (cs:List AV):Option AV :=
  match f.ag with
  | true=>(match Nat.ble f.c cs.length with | true=>some (.agg (cs.take f.c)) | false=>none)
  | false=>cs[0]?
def aEl (F:Fx) (op:Op) (sl:List (Nat×AV)) (m:Mem):Option AV :=
  match op with
  | .move x=>ev sl x
  | .assign x=>ev sl x
  | .pick c x y=>(match ev sl c with | some (.s (.bool true))=>ev sl x | some (.s (.bool false))=>ev sl y | _=>none)
  | .binOp op _ x y _=>(match ev sl x,ev sl y with | some (.s u),some (.s v)=>(match sbin op u v with | some r=>some (.s r) | none=>none) | _,_=>none)
  | .unOp .not _ x=>(match ev sl x with | some (.s (.bool b))=>some (.s (.bool !b)) | _=>none)
  | .extract x i=>(match ev sl x with | some (.tup vs)=>vs[i]? | _=>none)
  | .load t x=>(match lk F t with
    | some f=>(match ev sl x with
      | some (.adr cs)=>ldv f cs
      | some (.ref g k j i)=>(match lk m g with | some mm=>ldv f (mm.at k j i) | none=>none)
      | _=>none)
    | none=>none)
  | .fieldAddr t x i=>(match lk F t with
    | some f=>(match f.fl[i]? with
      | some (off,u)=>(match lk F u with
        | some ⟨_+1,_,_,_⟩=>(match ev sl x with | some (.adr cs)=>some (.adr (cs.drop off)) | some (.ref g k j q)=>some (.ref g k j (q+off)) | _=>none)
        | _=>none)
      | none=>none)
    | none=>none)
  | .field t x i=>(match lk F t with
    | some f=>(match f.fl[i]? with
      | some (off,u)=>(match lk F u with
        | some fu=>(match ev sl x with
          | some (.agg cs)=>(match fu.ag with
            | true=>(match Nat.ble (off+fu.c) cs.length with | true=>some (.agg ((cs.drop off).take fu.c)) | false=>none)
            | false=>cs[off]?)
          | _=>none)
        | none=>none)
      | none=>none)
    | none=>none)
  | .call ⟨.builtin .len,⟨[x]⟩,⟨[t]⟩⟩=>(match lk F t with
    | some ⟨_,_,some _,_⟩=>(match ev sl x with
      | some (.sl _ xs)=>some (.s (.int .i64 xs.length))
      | some (.own _ _ _ c)=>some (.s (.int .i64 c))
      | some (.s (.slice none 0 0))=>some (.s (.int .i64 0))
      | _=>none)
    | _=>none)
  | _=>none
theorem ldv_adr {F:Fx} {t:Nat} {f:Tf} {x:Operand} {sl:List (Nat×AV)} {m:Mem} {n:Nat} {cs:List AV} {av:AV} {d:Nat} {ty:TypeId} {ps:String} {af:Array Edge} {gd:Option (Nat×Bool)} (hF:aMu P F=true) (hl:lk F t=some f) (hx:ev sl x=some (.adr cs)) (h:ldv f cs=some av):cE P ⟨some d,.load t x,ty,ps,af,gd⟩ ⟨n,sl,m⟩ av:=by
  obtain ⟨h1,h2,_,_⟩:=vK hF hl
  unfold ldv at h
  split at h
  · rename_i ha
    split at h
    · rename_i hb; cases h; exact p_loads hx (by rw[h2,ha]) h1 hb rfl
    · cases h
  · rename_i ha; exact aF1 hx (by rw[h2,ha]) h
theorem ldv_ref {F:Fx} {t:Nat} {f:Tf} {x:Operand} {sl:List (Nat×AV)} {m:Mem} {n g k j i:Nat} {mm:AM} {av:AV} {d:Nat} {ty:TypeId} {ps:String} {af:Array Edge} {gd:Option (Nat×Bool)} (hF:aMu P F=true) (hl:lk F t=some f) (hx:ev sl x=some (.ref g k j i)) (hm:lk m g=some mm) (h:ldv f (mm.at k j i)=some av):cE P ⟨some d,.load t x,ty,ps,af,gd⟩ ⟨n,sl,m⟩ av:=by
  obtain ⟨h1,h2,_,_⟩:=vK hF hl
  unfold ldv at h
  split at h
  · rename_i ha
    split at h
    · rename_i hb; cases h; exact bM hx (by rw[h2,ha]) h1 hm hb rfl
    · cases h
  · rename_i ha; exact gR hx (by rw[h2,ha]) hm h
theorem pU {F:Fx} {op:Op} {sl:List (Nat×AV)} {m:Mem} {n:Nat} {av:AV} {d:Nat} {ty:TypeId} {ps:String} {af:Array Edge} {gd:Option (Nat×Bool)} (hF:aMu P F=true) (h:aEl F op sl m=some av):cE P ⟨some d,op,ty,ps,af,gd⟩ ⟨n,sl,m⟩ av:=by
  unfold aEl at h
  split at h
  · exact fA h
  · exact sU h
  · split at h
    · rename_i hc; exact aRm hc h
    · rename_i hc; exact aRn hc h
    · cases h
  · split at h
    · rename_i hx hy
      split at h
      · rename_i hb; cases h; exact dB hx hy (aPa hb)
      · cases h
    · cases h
  · split at h
    · rename_i hx; cases h; exact p_not hx
    · cases h
  · split at h
    · rename_i hx; exact aPl hx h
    · cases h
  · split at h
    · rename_i hl
      split at h
      · rename_i hx; exact ldv_adr hF hl hx h
      · rename_i hx
        split at h
        · rename_i hm; exact ldv_ref hF hl hx hm h
        · cases h
      · cases h
    · cases h
  · split at h
    · rename_i hl
      split at h
      · rename_i hi
        split at h
        · rename_i hu
          obtain ⟨_,_,_,h4⟩:=vK hF hl
          obtain ⟨u1,_,_,_⟩:=vK hF hu
          have hf:=aGd h4 hi
          rw[Nat.zero_add] at hf
          split at h
          · rename_i hx; cases h; exact bZ hx hf u1 rfl
          · rename_i hx; cases h; exact aPk hx hf u1 rfl
          · cases h
        · cases h
      · cases h
    · cases h
  · split at h
    · rename_i hl
      split at h
      · rename_i hi
        split at h
        · rename_i hu
          obtain ⟨_,_,_,h4⟩:=vK hF hl
          obtain ⟨u1,u2,_,_⟩:=vK hF hu
          have hf:=aGd h4 hi
          rw[Nat.zero_add] at hf
          split at h
          · rename_i hx
            split at h
            · rename_i ha
              split at h
              · rename_i hb; cases h; exact p_flds hx hf (by rw[u2,ha]) u1 hb rfl
              · cases h
            · rename_i ha; exact p_fld1 hx hf (by rw[u2,ha]) h
          · cases h
        · cases h
      · cases h
    · cases h
  · split at h
    · rename_i hl
      obtain ⟨_,_,h3,_⟩:=vK hF hl
      split at h
      · rename_i hx; cases h; exact aRo hx (h3 _ rfl)
      · rename_i hx; cases h; exact aPi hx (h3 _ rfl)
      · rename_i hx; cases h; exact aPj hx (h3 _ rfl)
      · cases h
    · cases h
  · cases h
def aBq (F:Fx) (n:Nat) (ops:Array Oper) (m:Mem):Nat→List Oper→List (Nat×AV)→Option (List Oper×List (Nat×AV))
  | 0,l,sl=>some (l,sl)
  | _+1,[],_=>none
  | k+1,⟨some d,op,_,_,_,none⟩::rest,sl=>(match lt d n with
    | true=>(match aEl F op sl m with | some av=>aBq F n ops m k rest ((d,av)::sl) | none=>none)
    | false=>none)
  | k+1,⟨some d,op,_,_,_,some (j,b)⟩::rest,sl=>(match lt d n with
    | true=>(match (ops[j]?).bind (·.dst) with
      | some g=>(match lk sl g,b with
        | some (.s (.bool true)),true=>(match aEl F op sl m with | some av=>aBq F n ops m k rest ((d,av)::sl) | none=>none)
        | some (.s (.bool false)),false=>(match aEl F op sl m with | some av=>aBq F n ops m k rest ((d,av)::sl) | none=>none)
        | some (.s (.bool true)),false=>aBq F n ops m k rest ((d,.s undef)::sl)
        | some (.s (.bool false)),true=>aBq F n ops m k rest ((d,.s undef)::sl)
        | _,_=>none)
      | none=>none)
    | false=>none)
  | _+1,_::_,_=>none
theorem aE {F:Fx} {n:Nat} {ops:Array Oper} {m:Mem} {Q:Exit→St→Prop} (hF:aMu P F=true):∀ (k:Nat) {l l':List Oper} {sl sl':List (Nat×AV)} (h:aBq F n ops m k l sl=some (l',sl')) (hk:eW P w0 p0 ops l' ⟨n,sl',m⟩ Q),eW P w0 p0 ops l ⟨n,sl,m⟩ Q
  | 0,l,l',sl,sl',h,hk=>by simp only[aBq,Option.some.injEq,Prod.mk.injEq] at h; obtain ⟨rfl,rfl⟩:=h; exact hk
  | k+1,[],l',sl,sl',h,hk=>by simp [aBq] at h
  | k+1,⟨none,op,ty,ps,af,gd⟩::rest,l',sl,sl',h,hk=>by simp [aBq] at h
  | k+1,⟨some d,op,ty,ps,af,none⟩::rest,l',sl,sl',h,hk=>by
    simp only[aBq] at h
    split at h
    · rename_i hd
      split at h
      · rename_i hs; exact aF hd (pU hF hs) (aE hF k h hk)
      · cases h
    · cases h
  | k+1,⟨some d,op,ty,ps,af,some (j,b)⟩::rest,l',sl,sl',h,hk=>by
    simp only[aBq] at h
    split at h
    · rename_i hd
      split at h
      · rename_i hg
        split at h
        · rename_i hb
          split at h
          · rename_i hs; exact bK hg hb hd (aF hd (pU hF hs) (aE hF k h hk))
          · cases h
        · rename_i hb
          split at h
          · rename_i hs; exact bK hg hb hd (aF hd (pU hF hs) (aE hF k h hk))
          · cases h
        · rename_i hb; exact xH hg hb hd (aE hF k h hk)
        · rename_i hb; exact xH hg hb hd (aE hF k h hk)
        · cases h
      · cases h
    · cases h
def xX (sl:List (Nat×AV)):List Nat→List (Nat×AV)
  | []=>[]
  | t::r=>(match lk sl t with | some a=>(t,a)::xX sl r | none=>xX sl r)
theorem inL_of {l:List Nat} {t:Nat} (h:t∈l):inL l t=true:=by
  induction l with
  | nil=>cases h
  | cons x l ih =>
    simp only[inL]
    rcases List.mem_cons.1 h with rfl | h
    · simp
    · rw[ih h]; split <;> rfl
theorem xV {sl:List (Nat×AV)} {looks:List Nat}:∀ {l:List Nat},(∀ t∈l,t∈looks)→xW looks sl (xX sl l)
  | [],_=>trivial
  | t::r,h=>by
    simp only[xX]
    split
    · rename_i ha
      exact⟨⟨inL_of (h t (List.mem_cons_self ..)),ha⟩,xV fun x hx=>h x (List.mem_cons_of_mem _ hx)⟩
    · exact xV fun x hx=>h x (List.mem_cons_of_mem _ hx)
def aN8 (ops:Array Oper) (sl:List (Nat×AV)):Option (Nat×Bool)→Option Bool
  | none=>some true
  | some (j,b)=>(match (ops[j]?).bind (·.dst) with
    | some g=>(match lk sl g,b with
      | some (.s (.bool true)),true=>some true
      | some (.s (.bool false)),false=>some true
      | some (.s (.bool true)),false=>some false
      | some (.s (.bool false)),true=>some false
      | _,_=>none)
    | none=>none)
theorem aG0 {ops:Array Oper} {sl:List (Nat×AV)} {d:Nat} {op:Op} {ty:TypeId} {ps:String} {af:Array Edge} {gd:Option (Nat×Bool)} {b:Bool} (h:aN8 ops sl gd=some b):jY ops ⟨some d,op,ty,ps,af,gd⟩ (fsl sl)=some b:=by
  cases gd with
  | none=>simp only[aN8] at h; simpa [jY] using h
  | some q =>
    obtain ⟨j,c⟩:=q
    simp only[aN8] at h
    simp only[jY]
    split at h
    · rename_i hg
      rw[hg]
      split at h <;> first | (rename_i hb; cases h; simp [fsl,hb]; done) | cases h
    · cases h
def aMd (F:Fx) (n:Nat) (ops:Array Oper) (m:Mem):Nat→List Oper→List (Nat×AV)→Option (List Oper×List (Nat×AV))
  | 0,l,sl=>some (l,sl)
  | _+1,[],_=>none
  | k+1,⟨some d,op,ty,ps,af,gd⟩::rest,sl=>(match lt d n with
    | true=>(match aN8 ops sl gd with
      | some true=>(match kW (xX sl (Oper.looksAt ops ⟨some d,op,ty,ps,af,gd⟩)) with
        | true=>(match aEl F op (xX sl (Oper.looksAt ops ⟨some d,op,ty,ps,af,gd⟩)) m with | some av=>aMd F n ops m k rest ((d,av)::sl) | none=>none)
        | false=>none)
      | some false=>aMd F n ops m k rest ((d,.s undef)::sl)
      | none=>none)
    | false=>none)
  | _+1,_::_,_=>none
theorem bL {F:Fx} {n:Nat} {ops:Array Oper} {m:Mem} {K:FS→Prop} (hF:aMu P F=true):∀ (k:Nat) {l l':List Oper} {sl sl':List (Nat×AV)} (h:aMd F n ops m k l sl=some (l',sl')) (hk:pC P ops n m K l' (fsl sl')),pC P ops n m K l (fsl sl)
  | 0,l,l',sl,sl',h,hk=>by simp only[aMd,Option.some.injEq,Prod.mk.injEq] at h; obtain ⟨rfl,rfl⟩:=h; exact hk
  | k+1,[],l',sl,sl',h,hk=>by simp [aMd] at h
  | k+1,⟨none,op,ty,ps,af,gd⟩::rest,l',sl,sl',h,hk=>by simp [aMd] at h
  | k+1,⟨some d,op,ty,ps,af,gd⟩::rest,l',sl,sl',h,hk=>by
    simp only[aMd] at h
    split at h
    · rename_i hd
      split at h
      · rename_i hw
        split at h
        · rename_i hb
          split at h
          · rename_i hs; exact bY _ hd (aG0 hw) (xV fun _ hx=>hx) hb (pU hF hs) (bL hF k h hk)
          · cases h
        · cases h
      · rename_i hw; exact d_skip hd (aG0 hw) (bL hF k h hk)
      · cases h
    · cases h
end Go.Abs
namespace Go.Abs
open Go Go.RowKit
theorem lf {cs:List AV} (h:cs.all AV.leaf=true):∀ c∈cs,c.leaf=true:=List.all_eq_true.1 h
theorem l1 {cs:List AV} (h:cs.all AV.one=true):∀ c∈cs,c.one=true:=List.all_eq_true.1 h
theorem l2 {xs:List (List AV)} {k:Nat} (h:xs.all (fun x=>Nat.beq x.length k&&x.all AV.leaf)=true):∀ x∈xs,x.length=k∧∀ c∈x,c.leaf=true:=fun x hx=>by
  have:=List.all_eq_true.1 h x hx
  rw[Bool.and_eq_true] at this
  exact⟨Nat.eq_of_beq_eq_true this.1,List.all_eq_true.1 this.2⟩
theorem l3 {ps:List (Nat×AV)} (h:ps.all (fun x=>x.2.cells.all AV.one)=true):∀ x∈ps,∀ c∈x.2.cells,c.one=true:=fun x hx=>List.all_eq_true.1 (List.all_eq_true.1 h x hx)
theorem l4 {mm:AM} {cs:List AV} (h:(match mm with | .box _=>true | .buf _ _=>cs.all AV.leaf)=true):∀ k xs,mm=.buf k xs→∀ c∈cs,c.leaf=true:=fun k xs e=>by
  subst e; exact List.all_eq_true.1 h
end Go.Abs
set_option linter.unusedVariables false
set_option linter.unusedSimpArgs false
namespace Go.Abs
open Go Go.RowKit
variable {P:Program} {w0:World} {p0:Hp}
def oD {α:Type} (sl:List (Nat×α)):List Nat→Option (List (Nat×α))
  | []=>some []
  | t::r=>(match lk sl t with
    | some a=>(match oD sl r with | some l=>some ((t,a)::l) | none=>none)
    | none=>none)
theorem kM {sl:List (Nat×AV)}:∀ {ks:List Nat} {sl':List (Nat×AV)},oD sl ks=some sl'→nF sl sl'
  | [],sl',h=>by simp only[oD,Option.some.injEq] at h; subst h; trivial
  | t::r,sl',h=>by
    simp only[oD] at h
    split at h
    · rename_i ha
      split at h
      · rename_i hl; cases h; exact⟨ha,kM hl⟩
      · cases h
    · cases h
theorem aB1 {α:Type} {m:List (Nat×α)}:∀ {ks:List Nat} {m':List (Nat×α)},oD m ks=some m'→∀ g a,bF m' g=some a→bF m g=some a
  | [],m',h,g,a,hg=>by simp only[oD,Option.some.injEq] at h; subst h; cases hg
  | t::r,m',h,g,a,hg=>by
    simp only[oD] at h
    split at h
    · rename_i ha
      split at h
      · rename_i hl
        cases h
        rw[dH] at hg
        split at hg
        · rename_i e; subst e; cases hg; rw[← kE]; exact ha
        · exact aB1 hl g a hg
      · cases h
    · cases h
def aE2 {α:Type} (m':List (Nat×α)):List (Nat×α)→Bool
  | []=>true
  | (g,_)::r=>(match lk m' g with | some _=>aE2 m' r | none=>false)
theorem aCe {α:Type} {m':List (Nat×α)}:∀ {m:List (Nat×α)},aE2 m' m=true→∀ g,bF m' g=none→bF m g=none
  | [],_,_,_=>rfl
  | (d,a)::r,h,g,hg=>by
    simp only[aE2] at h
    split at h
    · rename_i hk
      rw[dH]
      split
      · rename_i e; subst e; rw[kE] at hk; rw[hk] at hg; cases hg
      · exact aCe h g hg
    · cases h
theorem aRt {m m':Mem} (h2:oD m (m'.map Prod.fst)=some m') (h3:aE2 m' m=true):∀ g,bF m g=bF m' g:=fun g=>by
  cases h:bF m' g with
  | some a=>exact aB1 h2 g a h
  | none=>exact aCe h3 g h
theorem dN {n:Nat} {sl sl':List (Nat×AV)} {m:Mem} (h:oD sl (sl'.map Prod.fst)=some sl'):Le ⟨n,sl,m⟩ ⟨n,sl',m⟩:=kX (kM h)
theorem cD {n:Nat} {sl sl':List (Nat×AV)} {m:Mem} (ks:List Nat) (h:oD sl ks=some sl'):Le ⟨n,sl,m⟩ ⟨n,sl',m⟩:=kX (kM h)
theorem aCc {n:Nat} {sl sl':List (Nat×AV)} {m m':Mem} (h:oD sl (sl'.map Prod.fst)=some sl') (h2:oD m (m'.map Prod.fst)=some m') (h3:aE2 m' m=true):Le ⟨n,sl,m⟩ ⟨n,sl',m'⟩:=le_mem (kM h) (aRt h2 h3)
section
variable {ops:Array Oper} {Q:Exit→St→Prop} {fuel:Nat} {listed:Array Bool} {n:Nat} {sl sl':List (Nat×AV)} {m m':Mem}
theorem ag (hD:oJ P w0 p0 ops Q fuel listed ⟨n,sl',m'⟩) (h:oD sl (sl'.map Prod.fst)=some sl') (h2:oD m (m'.map Prod.fst)=some m') (h3:aE2 m' m=true):oJ P w0 p0 ops Q fuel listed ⟨n,sl,m⟩:=lD (aCc h h2 h3) hD
theorem gE {K:FS→Prop} (ks:List Nat) (hK:K=fun s=>∃ σ':St,σ'.n=n∧σ'.mem=m∧jI (fun t=>some (s t)) σ'.slots∧kW σ'.slots=true∧Q .normal σ') (hc:oD sl ks=some sl') (hnb:kW sl'=true) (h:Q .normal ⟨n,sl',m⟩):pC P ops n m K [] (fsl sl):=lex_end hK (kM hc) hnb h
theorem tC {K:FS→Prop} {r:Nat} {L:Array Bool} (ks:List Nat) (hK:K=fun s=>∃ σ':St,σ'.n=n∧σ'.mem=m∧jI (fun t=>some (s t)) σ'.slots∧kW σ'.slots=true∧oJ P w0 p0 ops Q r L σ') (hc:oD sl ks=some sl') (hnb:kW sl'=true) (h:oJ P w0 p0 ops Q r L ⟨n,sl',m⟩):pC P ops n m K [] (fsl sl):=aRv hK (kM hc) hnb h
end
theorem ao {o:Oper} {σ:St} {K:St→Prop} (hg:o.guard=none) (h:eW P w0 p0 #[] [o] σ (aOl K)):AOp P w0 p0 o σ K:=aJx hg h
theorem ixm {α:Type} {enc:α→List AV} {l:List α} {k:Nat} (h:k<l.length):0≤((k:Nat):Int)∧(l.map enc)[((k:Nat):Int).toNat]?=some (enc l[k]):=⟨by omega,by rw[Int.toNat_natCast,List.getElem?_map,List.getElem?_eq_getElem h]; rfl⟩
end Go.Abs
set_option linter.unusedVariables false
namespace Go.Proofs.YtijnkglkchhomaaGreat
open Go Go.Abs
theorem bN:Tryz.prog.follows .mixedOrders=true:=by kernel_rfl
def Tryz.fx:Fx:=[(3,⟨1,false,none,[]⟩),(9,⟨1,false,none,[]⟩),(39,⟨6,true,none,[(0,3),(1,3),(2,34),(3,35),(4,36),(5,37)]⟩),(124,⟨2,true,none,[(0,3),(1,3)]⟩),(27,⟨6,true,none,[(0,3),(1,3),(2,22),(3,23),(4,24),(5,25)]⟩),(47,⟨6,true,none,[(0,3),(1,3),(2,9),(3,9),(4,3),(5,3)]⟩),(67,⟨6,true,none,[(0,3),(1,3),(2,9),(3,9),(4,3),(5,3)]⟩),(35,⟨1,false,some 106,[]⟩),(34,⟨1,false,some 152,[]⟩),(126,⟨4,true,none,[(0,124),(2,3),(3,3)]⟩),(36,⟨1,false,some 147,[]⟩),(23,⟨1,false,some 95,[]⟩),(63,⟨1,false,some 126,[]⟩),(99,⟨4,true,none,[(0,9),(1,9),(2,3),(3,3)]⟩),(37,⟨1,false,some 107,[]⟩),(122,⟨4,true,none,[(0,3),(1,3),(2,3),(3,3)]⟩),(22,⟨1,false,some 93,[]⟩),(152,⟨4,true,none,[(0,3),(1,9),(2,3),(3,3)]⟩),(147,⟨4,true,none,[(0,81),(2,124)]⟩),(106,⟨2,true,none,[(0,9),(1,63)]⟩),(81,⟨2,true,none,[(0,9),(1,9)]⟩),(24,⟨1,false,some 99,[]⟩),(93,⟨4,true,none,[(0,3),(1,9),(2,3),(3,3)]⟩),(25,⟨1,false,some 101,[]⟩),(28,⟨1,false,some 47,[]⟩),(61,⟨1,false,some 122,[]⟩),(107,⟨2,true,none,[(0,9),(1,3)]⟩),(95,⟨2,true,none,[(0,9),(1,61)]⟩),(101,⟨2,true,none,[(0,9),(1,3)]⟩),(145,⟨2,true,none,[(0,3),(1,3)]⟩),(32,⟨1,false,some 67,[]⟩),(40,⟨1,false,some 71,[]⟩),(71,⟨1,false,none,[]⟩),(167,⟨2,true,none,[(0,9),(1,9)]⟩),(286,⟨1,false,none,[]⟩),(76,⟨1,false,some 145,[]⟩),(78,⟨1,false,some 124,[]⟩),(189,⟨1,false,some 3,[]⟩),(237,⟨1,false,some 63,[]⟩),(261,⟨1,false,some 34,[]⟩),(263,⟨1,false,some 35,[]⟩),(284,⟨1,false,some 36,[]⟩),(129,⟨1,false,none,[]⟩),(200,⟨1,false,none,[]⟩),(194,⟨1,false,none,[]⟩),(252,⟨1,false,some 9,[]⟩)]
theorem aA:aMu Tryz.prog Tryz.fx=true:=by kernel_rfl
theorem cB:cells? Tryz.prog 3=some 1:=by kernel_rfl
theorem kS:agg? Tryz.prog 3=some false:=by kernel_rfl
theorem cJ:cells? Tryz.prog 9=some 1:=by kernel_rfl
theorem aGr:agg? Tryz.prog 9=some false:=by kernel_rfl
theorem xG:cells? Tryz.prog 22=some 1:=by kernel_rfl
theorem jN:elem? Tryz.prog 22=some 93:=by kernel_rfl
theorem fK:appT? Tryz.prog 22=some (93,4,40):=by kernel_rfl
theorem aL1:cells? Tryz.prog 23=some 1:=by kernel_rfl
theorem fQ:elem? Tryz.prog 23=some 95:=by kernel_rfl
theorem eP:appT? Tryz.prog 23=some (95,2,40):=by kernel_rfl
theorem aDj:cells? Tryz.prog 24=some 1:=by kernel_rfl
theorem kJ:elem? Tryz.prog 24=some 99:=by kernel_rfl
theorem eO:appT? Tryz.prog 24=some (99,4,48):=by kernel_rfl
theorem aSx:cells? Tryz.prog 25=some 1:=by kernel_rfl
theorem pP:elem? Tryz.prog 25=some 101:=by kernel_rfl
theorem jU:appT? Tryz.prog 25=some (101,2,24):=by kernel_rfl
theorem cI:cells? Tryz.prog 27=some 6:=by kernel_rfl
theorem iF:agg? Tryz.prog 27=some true:=by kernel_rfl
theorem jS:places? Tryz.prog 27=some [(0,1),(1,1),(2,1),(3,1),(4,1),(5,1)]:=by kernel_rfl
theorem dA:zeros? Tryz.prog 27=some [.int .i64 0,.int .i64 0,.slice none 0 0,.slice none 0 0,.slice none 0 0,.slice none 0 0]:=by kernel_rfl
theorem aSw:agg? Tryz.prog 28=some false:=by kernel_rfl
theorem gV:elem? Tryz.prog 28=some 47:=by kernel_rfl
theorem aFh:appT? Tryz.prog 28=some (47,6,64):=by kernel_rfl
theorem jA:elem? Tryz.prog 32=some 67:=by kernel_rfl
theorem mA:appT? Tryz.prog 32=some (67,6,64):=by kernel_rfl
theorem nV:cells? Tryz.prog 34=some 1:=by kernel_rfl
theorem eU:elem? Tryz.prog 34=some 152:=by kernel_rfl
theorem nC:appT? Tryz.prog 34=some (152,4,40):=by kernel_rfl
theorem rI:cells? Tryz.prog 35=some 1:=by kernel_rfl
theorem fH:elem? Tryz.prog 35=some 106:=by kernel_rfl
theorem oR:appT? Tryz.prog 35=some (106,2,40):=by kernel_rfl
theorem pR:cells? Tryz.prog 36=some 1:=by kernel_rfl
theorem fZ:elem? Tryz.prog 36=some 147:=by kernel_rfl
theorem lZ:appT? Tryz.prog 36=some (147,4,48):=by kernel_rfl
theorem xF:cells? Tryz.prog 37=some 1:=by kernel_rfl
theorem kI:elem? Tryz.prog 37=some 107:=by kernel_rfl
theorem nB:appT? Tryz.prog 37=some (107,2,24):=by kernel_rfl
theorem cW:cells? Tryz.prog 39=some 6:=by kernel_rfl
theorem pL:agg? Tryz.prog 39=some true:=by kernel_rfl
theorem aJ9:field? Tryz.prog 39 2=some (2,34):=by kernel_rfl
theorem aJ8:field? Tryz.prog 39 3=some (3,35):=by kernel_rfl
theorem aJ7:field? Tryz.prog 39 4=some (4,36):=by kernel_rfl
theorem aJ6:field? Tryz.prog 39 5=some (5,37):=by kernel_rfl
theorem oQ:places? Tryz.prog 39=some [(0,1),(1,1),(2,1),(3,1),(4,1),(5,1)]:=by kernel_rfl
theorem cK:zeros? Tryz.prog 39=some [.int .i64 0,.int .i64 0,.slice none 0 0,.slice none 0 0,.slice none 0 0,.slice none 0 0]:=by kernel_rfl
theorem tR:elem? Tryz.prog 40=some 71:=by kernel_rfl
theorem lY:appT? Tryz.prog 40=some (71,1,8):=by kernel_rfl
theorem gL:cells? Tryz.prog 47=some 6:=by kernel_rfl
theorem aJ5:field? Tryz.prog 47 1=some (1,3):=by kernel_rfl
theorem aJ4:field? Tryz.prog 47 2=some (2,9):=by kernel_rfl
theorem nS:field? Tryz.prog 47 3=some (3,9):=by kernel_rfl
theorem lX:field? Tryz.prog 47 4=some (4,3):=by kernel_rfl
theorem iG:field? Tryz.prog 47 5=some (5,3):=by kernel_rfl
theorem aSv:zeros? Tryz.prog 47=some [.int .i64 0,.int .i64 0,.string ⟨#[]⟩,.string ⟨#[]⟩,.int .i64 0,.int .i64 0]:=by kernel_rfl
theorem aDi:elem? Tryz.prog 61=some 122:=by kernel_rfl
theorem rJ:appT? Tryz.prog 61=some (122,4,32):=by kernel_rfl
theorem xE:cells? Tryz.prog 63=some 1:=by kernel_rfl
theorem aJ1:agg? Tryz.prog 63=some false:=by kernel_rfl
theorem cG:elem? Tryz.prog 63=some 126:=by kernel_rfl
theorem kV:appT? Tryz.prog 63=some (126,4,32):=by kernel_rfl
theorem dC:cells? Tryz.prog 67=some 6:=by kernel_rfl
theorem iE:agg? Tryz.prog 67=some true:=by kernel_rfl
theorem iD:eqT? Tryz.prog 67=some (.agg [.int .i64,.int .i64,.str,.str,.int .i64,.int .i64]):=by kernel_rfl
theorem eX:field? Tryz.prog 67 2=some (2,9):=by kernel_rfl
theorem tI:field? Tryz.prog 67 3=some (3,9):=by kernel_rfl
theorem qE:field? Tryz.prog 67 4=some (4,3):=by kernel_rfl
theorem zD:field? Tryz.prog 67 5=some (5,3):=by kernel_rfl
theorem uL:places? Tryz.prog 67=some [(0,1),(1,1),(2,1),(3,1),(4,1),(5,1)]:=by kernel_rfl
theorem lA:zeros? Tryz.prog 67=some [.int .i64 0,.int .i64 0,.string ⟨#[]⟩,.string ⟨#[]⟩,.int .i64 0,.int .i64 0]:=by kernel_rfl
theorem tS:cells? Tryz.prog 71=some 1:=by kernel_rfl
theorem mP:elem? Tryz.prog 76=some 145:=by kernel_rfl
theorem aU:appT? Tryz.prog 76=some (145,2,16):=by kernel_rfl
theorem kH:elem? Tryz.prog 78=some 124:=by kernel_rfl
theorem kU:appT? Tryz.prog 78=some (124,2,16):=by kernel_rfl
theorem pQ:cells? Tryz.prog 81=some 2:=by kernel_rfl
theorem aJ0:eqT? Tryz.prog 81=some (.agg [.str,.str]):=by kernel_rfl
theorem aJ3:field? Tryz.prog 81 1=some (1,9):=by kernel_rfl
theorem lW:places? Tryz.prog 81=some [(0,1),(1,1)]:=by kernel_rfl
theorem gU:zeros? Tryz.prog 81=some [.string ⟨#[]⟩,.string ⟨#[]⟩]:=by kernel_rfl
theorem fS:cells? Tryz.prog 93=some 4:=by kernel_rfl
theorem uK:places? Tryz.prog 93=some [(0,1),(1,1),(2,1),(3,1)]:=by kernel_rfl
theorem pK:zeros? Tryz.prog 93=some [.int .i64 0,.string ⟨#[]⟩,.int .i64 0,.int .i64 0]:=by kernel_rfl
theorem fR:cells? Tryz.prog 95=some 2:=by kernel_rfl
theorem uJ:places? Tryz.prog 95=some [(0,1),(1,1)]:=by kernel_rfl
theorem xD:zeros? Tryz.prog 95=some [.string ⟨#[]⟩,.slice none 0 0]:=by kernel_rfl
theorem jB:cells? Tryz.prog 99=some 4:=by kernel_rfl
theorem aJ2:field? Tryz.prog 99 1=some (1,9):=by kernel_rfl
theorem zC:field? Tryz.prog 99 3=some (3,3):=by kernel_rfl
theorem aQv:places? Tryz.prog 99=some [(0,1),(1,1),(2,1),(3,1)]:=by kernel_rfl
theorem aC7:zeros? Tryz.prog 99=some [.string ⟨#[]⟩,.string ⟨#[]⟩,.int .i64 0,.int .i64 0]:=by kernel_rfl
theorem nA:cells? Tryz.prog 101=some 2:=by kernel_rfl
theorem aC9:places? Tryz.prog 101=some [(0,1),(1,1)]:=by kernel_rfl
theorem aFc:zeros? Tryz.prog 101=some [.string ⟨#[]⟩,.int .i64 0]:=by kernel_rfl
theorem eT:cells? Tryz.prog 106=some 2:=by kernel_rfl
theorem aQz:agg? Tryz.prog 106=some true:=by kernel_rfl
theorem aNg:places? Tryz.prog 106=some [(0,1),(1,1)]:=by kernel_rfl
theorem yH:zeros? Tryz.prog 106=some [.string ⟨#[]⟩,.slice none 0 0]:=by kernel_rfl
theorem gP:cells? Tryz.prog 107=some 2:=by kernel_rfl
theorem aQy:agg? Tryz.prog 107=some true:=by kernel_rfl
theorem aNf:places? Tryz.prog 107=some [(0,1),(1,1)]:=by kernel_rfl
theorem yG:zeros? Tryz.prog 107=some [.string ⟨#[]⟩,.int .i64 0]:=by kernel_rfl
theorem jC:cells? Tryz.prog 122=some 4:=by kernel_rfl
theorem vR:places? Tryz.prog 122=some [(0,1),(1,1),(2,1),(3,1)]:=by kernel_rfl
theorem lV:zeros? Tryz.prog 122=some [.int .i64 0,.int .i64 0,.int .i64 0,.int .i64 0]:=by kernel_rfl
theorem eS:cells? Tryz.prog 124=some 2:=by kernel_rfl
theorem yI:agg? Tryz.prog 124=some true:=by kernel_rfl
theorem aC8:places? Tryz.prog 124=some [(0,1),(1,1)]:=by kernel_rfl
theorem oP:zeros? Tryz.prog 124=some [.int .i64 0,.int .i64 0]:=by kernel_rfl
theorem aX:cells? Tryz.prog 126=some 4:=by kernel_rfl
theorem dS:agg? Tryz.prog 126=some true:=by kernel_rfl
theorem aGv:field? Tryz.prog 126 0=some (0,124):=by kernel_rfl
theorem vQ:places? Tryz.prog 126=some [(0,2),(2,1),(3,1)]:=by kernel_rfl
theorem fJ:zeros? Tryz.prog 126=some [.int .i64 0,.int .i64 0,.int .i64 0,.int .i64 0]:=by kernel_rfl
theorem kT:cells? Tryz.prog 145=some 2:=by kernel_rfl
theorem aQu:eqT? Tryz.prog 145=some (.agg [.int .i64,.int .i64]):=by kernel_rfl
theorem aGu:field? Tryz.prog 145 0=some (0,3):=by kernel_rfl
theorem aGt:field? Tryz.prog 145 1=some (1,3):=by kernel_rfl
theorem dL:places? Tryz.prog 145=some [(0,1),(1,1)]:=by kernel_rfl
theorem eD:zeros? Tryz.prog 145=some [.int .i64 0,.int .i64 0]:=by kernel_rfl
theorem eR:cells? Tryz.prog 147=some 4:=by kernel_rfl
theorem aQx:agg? Tryz.prog 147=some true:=by kernel_rfl
theorem aGs:field? Tryz.prog 147 1=some (2,124):=by kernel_rfl
theorem aNe:places? Tryz.prog 147=some [(0,2),(2,2)]:=by kernel_rfl
theorem oO:zeros? Tryz.prog 147=some [.string ⟨#[]⟩,.string ⟨#[]⟩,.int .i64 0,.int .i64 0]:=by kernel_rfl
theorem dU:cells? Tryz.prog 152=some 4:=by kernel_rfl
theorem aQw:agg? Tryz.prog 152=some true:=by kernel_rfl
theorem aNd:places? Tryz.prog 152=some [(0,1),(1,1),(2,1),(3,1)]:=by kernel_rfl
theorem rH:zeros? Tryz.prog 152=some [.int .i64 0,.string ⟨#[]⟩,.int .i64 0,.int .i64 0]:=by kernel_rfl
theorem mZ:cells? Tryz.prog 167=some 2:=by kernel_rfl
theorem lJ:places? Tryz.prog 167=some [(0,1),(1,1)]:=by kernel_rfl
theorem gF:zeros? Tryz.prog 167=some [.string ⟨#[]⟩,.string ⟨#[]⟩]:=by kernel_rfl
theorem jT:elem? Tryz.prog 189=some 3:=by kernel_rfl
theorem fC:appT? Tryz.prog 189=some (3,1,8):=by kernel_rfl
theorem aFg:elem? Tryz.prog 237=some 63:=by kernel_rfl
theorem aDl:appT? Tryz.prog 237=some (63,1,24):=by kernel_rfl
theorem aQ0:elem? Tryz.prog 252=some 9:=by kernel_rfl
theorem kK:appT? Tryz.prog 252=some (9,1,16):=by kernel_rfl
theorem aFf:elem? Tryz.prog 261=some 34:=by kernel_rfl
theorem vU:appT? Tryz.prog 261=some (34,1,24):=by kernel_rfl
theorem aFe:elem? Tryz.prog 263=some 35:=by kernel_rfl
theorem aN6:appT? Tryz.prog 263=some (35,1,24):=by kernel_rfl
theorem aFd:elem? Tryz.prog 284=some 36:=by kernel_rfl
theorem aDk:appT? Tryz.prog 284=some (36,1,24):=by kernel_rfl
theorem aDh:∀ args w,(callFunc 13 args).run Tryz.prog w=.ok (.enter 13 args) w:=enters_of Tryz.func13 (by kernel_rfl) rfl
theorem sE:∀ args w,(callFunc 14 args).run Tryz.prog w=.ok (.enter 14 args) w:=enters_of Tryz.func14 (by kernel_rfl) rfl
theorem sD:∀ args w,(callFunc 15 args).run Tryz.prog w=.ok (.enter 15 args) w:=enters_of Tryz.func15 (by kernel_rfl) rfl
theorem aN5:∀ args w,(callFunc 17 args).run Tryz.prog w=.ok (.enter 17 args) w:=enters_of Tryz.func17 (by kernel_rfl) rfl
theorem aDg:∀ args w,(callFunc 18 args).run Tryz.prog w=.ok (.enter 18 args) w:=enters_of Tryz.func18 (by kernel_rfl) rfl
theorem aN4:∀ args w,(callFunc 24 args).run Tryz.prog w=.ok (.enter 24 args) w:=enters_of Tryz.func24 (by kernel_rfl) rfl
theorem aN3:∀ args w,(callFunc 25 args).run Tryz.prog w=.ok (.enter 25 args) w:=enters_of Tryz.func25 (by kernel_rfl) rfl
theorem aN2:∀ args w,(callFunc 26 args).run Tryz.prog w=.ok (.enter 26 args) w:=enters_of Tryz.func26 (by kernel_rfl) rfl
theorem aN1:∀ args w,(callFunc 30 args).run Tryz.prog w=.ok (.enter 30 args) w:=enters_of Tryz.func30 (by kernel_rfl) rfl
theorem mY:∀ args w,(callFunc 32 args).run Tryz.prog w=.ok (.enter 32 args) w:=enters_of Tryz.func32 (by kernel_rfl) rfl
theorem aN0:∀ args w,(callFunc 35 args).run Tryz.prog w=.ok (.enter 35 args) w:=enters_of Tryz.func35 (by kernel_rfl) rfl
theorem aNz:∀ args w,(callFunc 36 args).run Tryz.prog w=.ok (.enter 36 args) w:=enters_of Tryz.func36 (by kernel_rfl) rfl
theorem aNy:∀ args w,(callFunc 37 args).run Tryz.prog w=.ok (.enter 37 args) w:=enters_of Tryz.func37 (by kernel_rfl) rfl
theorem aNx:∀ args w,(callFunc 38 args).run Tryz.prog w=.ok (.enter 38 args) w:=enters_of Tryz.func38 (by kernel_rfl) rfl
theorem aNw:∀ args w,(callFunc 39 args).run Tryz.prog w=.ok (.enter 39 args) w:=enters_of Tryz.func39 (by kernel_rfl) rfl
theorem aNv:∀ args w,(callFunc 42 args).run Tryz.prog w=.ok (.enter 42 args) w:=enters_of Tryz.func42 (by kernel_rfl) rfl
theorem sC:∀ args w,(callFunc 49 args).run Tryz.prog w=.ok (.enter 49 args) w:=enters_of Tryz.func49 (by kernel_rfl) rfl
theorem pO:∀ args w,(callFunc 50 args).run Tryz.prog w=.ok (.enter 50 args) w:=enters_of Tryz.func50 (by kernel_rfl) rfl
theorem aDf:∀ args w,(callFunc 54 args).run Tryz.prog w=.ok (.enter 54 args) w:=enters_of Tryz.func54 (by kernel_rfl) rfl
theorem aNu:∀ args w,(callFunc 55 args).run Tryz.prog w=.ok (.enter 55 args) w:=enters_of Tryz.func55 (by kernel_rfl) rfl
theorem aNt:∀ args w,(callFunc 56 args).run Tryz.prog w=.ok (.enter 56 args) w:=enters_of Tryz.func56 (by kernel_rfl) rfl
theorem lL:∀ args w,(callFunc 57 args).run Tryz.prog w=.ok (.enter 57 args) w:=enters_of Tryz.func57 (by kernel_rfl) rfl
theorem aNs:∀ args w,(callFunc 62 args).run Tryz.prog w=.ok (.enter 62 args) w:=enters_of Tryz.func62 (by kernel_rfl) rfl
theorem aNr:∀ args w,(callFunc 63 args).run Tryz.prog w=.ok (.enter 63 args) w:=enters_of Tryz.func63 (by kernel_rfl) rfl
theorem aNq:∀ args w,(callFunc 64 args).run Tryz.prog w=.ok (.enter 64 args) w:=enters_of Tryz.func64 (by kernel_rfl) rfl
theorem aNp:∀ args w,(callFunc 65 args).run Tryz.prog w=.ok (.enter 65 args) w:=enters_of Tryz.func65 (by kernel_rfl) rfl
theorem aDe:∀ args w,(callFunc 67 args).run Tryz.prog w=.ok (.enter 67 args) w:=enters_of Tryz.func67 (by kernel_rfl) rfl
theorem aNo:∀ args w,(callFunc 68 args).run Tryz.prog w=.ok (.enter 68 args) w:=enters_of Tryz.func68 (by kernel_rfl) rfl
theorem vT:∀ args w,(callFunc 69 args).run Tryz.prog w=.ok (.enter 69 args) w:=enters_of Tryz.func69 (by kernel_rfl) rfl
theorem aDd:∀ args w,(callFunc 70 args).run Tryz.prog w=.ok (.enter 70 args) w:=enters_of Tryz.func70 (by kernel_rfl) rfl
theorem vS:∀ args w,(callFunc 71 args).run Tryz.prog w=.ok (.enter 71 args) w:=enters_of Tryz.func71 (by kernel_rfl) rfl
theorem aDc:∀ args w,(callFunc 72 args).run Tryz.prog w=.ok (.enter 72 args) w:=enters_of Tryz.func72 (by kernel_rfl) rfl
theorem aNn:∀ args w,(callFunc 73 args).run Tryz.prog w=.ok (.enter 73 args) w:=enters_of Tryz.func73 (by kernel_rfl) rfl
theorem aNm:∀ args w,(callFunc 75 args).run Tryz.prog w=.ok (.enter 75 args) w:=enters_of Tryz.func75 (by kernel_rfl) rfl
theorem aNl:∀ args w,(callFunc 83 args).run Tryz.prog w=.ok (.enter 83 args) w:=enters_of Tryz.func83 (by kernel_rfl) rfl
theorem aNk:∀ args w,(callFunc 84 args).run Tryz.prog w=.ok (.enter 84 args) w:=enters_of Tryz.func84 (by kernel_rfl) rfl
theorem aNj:∀ args w,(callFunc 87 args).run Tryz.prog w=.ok (.enter 87 args) w:=enters_of Tryz.func87 (by kernel_rfl) rfl
theorem aDb:∀ args w,(callFunc 88 args).run Tryz.prog w=.ok (.enter 88 args) w:=enters_of Tryz.func88 (by kernel_rfl) rfl
theorem aNi:∀ args w,(callFunc 89 args).run Tryz.prog w=.ok (.enter 89 args) w:=enters_of Tryz.func89 (by kernel_rfl) rfl
theorem lK:∀ args w,(callFunc 90 args).run Tryz.prog w=.ok (.enter 90 args) w:=enters_of Tryz.func90 (by kernel_rfl) rfl
theorem aNh:∀ args w,(callFunc 93 args).run Tryz.prog w=.ok (.enter 93 args) w:=enters_of Tryz.func93 (by kernel_rfl) rfl
theorem iO:∀ args w,(callFunc 95 args).run Tryz.prog w=.ok (.enter 95 args) w:=enters_of Tryz.func95 (by kernel_rfl) rfl
theorem pN:∀ args w,(callFunc 96 args).run Tryz.prog w=.ok (.enter 96 args) w:=enters_of Tryz.func96 (by kernel_rfl) rfl
theorem pM:∀ args w,(callFunc 97 args).run Tryz.prog w=.ok (.enter 97 args) w:=enters_of Tryz.func97 (by kernel_rfl) rfl
theorem aDa:∀ args w,(callFunc 98 args).run Tryz.prog w=.ok (.enter 98 args) w:=enters_of Tryz.func98 (by kernel_rfl) rfl
theorem iH:∀ args w,(callFunc 101 args).run Tryz.prog w=.ok (.enter 101 args) w:=enters_of Tryz.func101 (by kernel_rfl) rfl
theorem tQ:∀ args w,(callFunc 102 args).run Tryz.prog w=.ok (.enter 102 args) w:=enters_of Tryz.func102 (by kernel_rfl) rfl
theorem aL0:∀ args w,(callFunc 103 args).run Tryz.prog w=.ok (.enter 103 args) w:=enters_of Tryz.func103 (by kernel_rfl) rfl
theorem aLz:∀ args w,(callFunc 104 args).run Tryz.prog w=.ok (.enter 104 args) w:=enters_of Tryz.func104 (by kernel_rfl) rfl
theorem aLy:∀ args w,(callFunc 105 args).run Tryz.prog w=.ok (.enter 105 args) w:=enters_of Tryz.func105 (by kernel_rfl) rfl
theorem aLx:∀ args w,(callFunc 106 args).run Tryz.prog w=.ok (.enter 106 args) w:=enters_of Tryz.func106 (by kernel_rfl) rfl
theorem zS:∀ args w,(callFunc 107 args).run Tryz.prog w=.ok (.enter 107 args) w:=enters_of Tryz.func107 (by kernel_rfl) rfl
theorem aLw:∀ args w,(callFunc 108 args).run Tryz.prog w=.ok (.enter 108 args) w:=enters_of Tryz.func108 (by kernel_rfl) rfl
theorem zR:∀ args w,(callFunc 109 args).run Tryz.prog w=.ok (.enter 109 args) w:=enters_of Tryz.func109 (by kernel_rfl) rfl
theorem aLv:∀ args w,(callFunc 110 args).run Tryz.prog w=.ok (.enter 110 args) w:=enters_of Tryz.func110 (by kernel_rfl) rfl
theorem aLu:∀ args w,(callFunc 111 args).run Tryz.prog w=.ok (.enter 111 args) w:=enters_of Tryz.func111 (by kernel_rfl) rfl
theorem aLt:∀ args w,(callFunc 112 args).run Tryz.prog w=.ok (.enter 112 args) w:=enters_of Tryz.func112 (by kernel_rfl) rfl
theorem qH:∀ args w,(callFunc 113 args).run Tryz.prog w=.ok (.enter 113 args) w:=enters_of Tryz.func113 (by kernel_rfl) rfl
theorem tP:∀ args w,(callFunc 114 args).run Tryz.prog w=.ok (.enter 114 args) w:=enters_of Tryz.func114 (by kernel_rfl) rfl
theorem nU:∀ args w,(callFunc 115 args).run Tryz.prog w=.ok (.enter 115 args) w:=enters_of Tryz.func115 (by kernel_rfl) rfl
theorem aLs:∀ args w,(callFunc 116 args).run Tryz.prog w=.ok (.enter 116 args) w:=enters_of Tryz.func116 (by kernel_rfl) rfl
theorem zQ:∀ args w,(callFunc 117 args).run Tryz.prog w=.ok (.enter 117 args) w:=enters_of Tryz.func117 (by kernel_rfl) rfl
theorem zP:∀ args w,(callFunc 118 args).run Tryz.prog w=.ok (.enter 118 args) w:=enters_of Tryz.func118 (by kernel_rfl) rfl
theorem aLr:∀ args w,(callFunc 119 args).run Tryz.prog w=.ok (.enter 119 args) w:=enters_of Tryz.func119 (by kernel_rfl) rfl
theorem zO:∀ args w,(callFunc 120 args).run Tryz.prog w=.ok (.enter 120 args) w:=enters_of Tryz.func120 (by kernel_rfl) rfl
theorem aLq:∀ args w,(callFunc 124 args).run Tryz.prog w=.ok (.enter 124 args) w:=enters_of Tryz.func124 (by kernel_rfl) rfl
theorem aLp:∀ args w,(callFunc 125 args).run Tryz.prog w=.ok (.enter 125 args) w:=enters_of Tryz.func125 (by kernel_rfl) rfl
theorem aLo:∀ args w,(callFunc 126 args).run Tryz.prog w=.ok (.enter 126 args) w:=enters_of Tryz.func126 (by kernel_rfl) rfl
theorem aLn:∀ args w,(callFunc 127 args).run Tryz.prog w=.ok (.enter 127 args) w:=enters_of Tryz.func127 (by kernel_rfl) rfl
theorem aLm:∀ args w,(callFunc 128 args).run Tryz.prog w=.ok (.enter 128 args) w:=enters_of Tryz.func128 (by kernel_rfl) rfl
theorem aLl:∀ args w,(callFunc 129 args).run Tryz.prog w=.ok (.enter 129 args) w:=enters_of Tryz.func129 (by kernel_rfl) rfl
theorem aLk:∀ args w,(callFunc 130 args).run Tryz.prog w=.ok (.enter 130 args) w:=enters_of Tryz.func130 (by kernel_rfl) rfl
theorem aLj:∀ args w,(callFunc 131 args).run Tryz.prog w=.ok (.enter 131 args) w:=enters_of Tryz.func131 (by kernel_rfl) rfl
theorem aLi:∀ args w,(callFunc 132 args).run Tryz.prog w=.ok (.enter 132 args) w:=enters_of Tryz.func132 (by kernel_rfl) rfl
theorem aLh:∀ args w,(callFunc 133 args).run Tryz.prog w=.ok (.enter 133 args) w:=enters_of Tryz.func133 (by kernel_rfl) rfl
theorem aLg:∀ args w,(callFunc 134 args).run Tryz.prog w=.ok (.enter 134 args) w:=enters_of Tryz.func134 (by kernel_rfl) rfl
theorem kG:∀ args w,(callFunc 152 args).run Tryz.prog w=.ok (.enter 152 args) w:=enters_of Tryz.func152 (by kernel_rfl) rfl
theorem nT:∀ args w,(callFunc 153 args).run Tryz.prog w=.ok (.enter 153 args) w:=enters_of Tryz.func153 (by kernel_rfl) rfl
theorem jF:∀ args w,(callFunc 154 args).run Tryz.prog w=.ok (.enter 154 args) w:=enters_of Tryz.func154 (by kernel_rfl) rfl
theorem aLf:∀ args w,(callFunc 155 args).run Tryz.prog w=.ok (.enter 155 args) w:=enters_of Tryz.func155 (by kernel_rfl) rfl
theorem aLe:∀ args w,(callFunc 156 args).run Tryz.prog w=.ok (.enter 156 args) w:=enters_of Tryz.func156 (by kernel_rfl) rfl
theorem aLd:∀ args w,(callFunc 157 args).run Tryz.prog w=.ok (.enter 157 args) w:=enters_of Tryz.func157 (by kernel_rfl) rfl
theorem aLc:∀ args w,(callFunc 158 args).run Tryz.prog w=.ok (.enter 158 args) w:=enters_of Tryz.func158 (by kernel_rfl) rfl
theorem aLb:∀ args w,(callFunc 159 args).run Tryz.prog w=.ok (.enter 159 args) w:=enters_of Tryz.func159 (by kernel_rfl) rfl
theorem tO:∀ args w,(callFunc 160 args).run Tryz.prog w=.ok (.enter 160 args) w:=enters_of Tryz.func160 (by kernel_rfl) rfl
theorem tN:∀ args w,(callFunc 161 args).run Tryz.prog w=.ok (.enter 161 args) w:=enters_of Tryz.func161 (by kernel_rfl) rfl
theorem aLa:∀ args w,(callFunc 162 args).run Tryz.prog w=.ok (.enter 162 args) w:=enters_of Tryz.func162 (by kernel_rfl) rfl
theorem aK9:∀ args w,(callFunc 165 args).run Tryz.prog w=.ok (.enter 165 args) w:=enters_of Tryz.func165 (by kernel_rfl) rfl
theorem tM:∀ args w,(callFunc 168 args).run Tryz.prog w=.ok (.enter 168 args) w:=enters_of Tryz.func168 (by kernel_rfl) rfl
theorem aK8:∀ args w,(callFunc 169 args).run Tryz.prog w=.ok (.enter 169 args) w:=enters_of Tryz.func169 (by kernel_rfl) rfl
theorem zN:∀ args w,(callFunc 170 args).run Tryz.prog w=.ok (.enter 170 args) w:=enters_of Tryz.func170 (by kernel_rfl) rfl
theorem aK7:∀ args w,(callFunc 171 args).run Tryz.prog w=.ok (.enter 171 args) w:=enters_of Tryz.func171 (by kernel_rfl) rfl
theorem zM:∀ args w,(callFunc 172 args).run Tryz.prog w=.ok (.enter 172 args) w:=enters_of Tryz.func172 (by kernel_rfl) rfl
theorem zL:∀ args w,(callFunc 173 args).run Tryz.prog w=.ok (.enter 173 args) w:=enters_of Tryz.func173 (by kernel_rfl) rfl
theorem aK6:∀ args w,(callFunc 174 args).run Tryz.prog w=.ok (.enter 174 args) w:=enters_of Tryz.func174 (by kernel_rfl) rfl
theorem aK5:∀ args w,(callFunc 175 args).run Tryz.prog w=.ok (.enter 175 args) w:=enters_of Tryz.func175 (by kernel_rfl) rfl
theorem tL:∀ args w,(callFunc 176 args).run Tryz.prog w=.ok (.enter 176 args) w:=enters_of Tryz.func176 (by kernel_rfl) rfl
theorem aK4:∀ args w,(callFunc 177 args).run Tryz.prog w=.ok (.enter 177 args) w:=enters_of Tryz.func177 (by kernel_rfl) rfl
theorem aK3:∀ args w,(callFunc 178 args).run Tryz.prog w=.ok (.enter 178 args) w:=enters_of Tryz.func178 (by kernel_rfl) rfl
theorem zK:∀ args w,(callFunc 181 args).run Tryz.prog w=.ok (.enter 181 args) w:=enters_of Tryz.func181 (by kernel_rfl) rfl
theorem aK2:∀ args w,(callFunc 182 args).run Tryz.prog w=.ok (.enter 182 args) w:=enters_of Tryz.func182 (by kernel_rfl) rfl
theorem aK1:∀ args w,(callFunc 183 args).run Tryz.prog w=.ok (.enter 183 args) w:=enters_of Tryz.func183 (by kernel_rfl) rfl
theorem aK0:∀ args w,(callFunc 184 args).run Tryz.prog w=.ok (.enter 184 args) w:=enters_of Tryz.func184 (by kernel_rfl) rfl
theorem aKz:∀ args w,(callFunc 185 args).run Tryz.prog w=.ok (.enter 185 args) w:=enters_of Tryz.func185 (by kernel_rfl) rfl
theorem aKy:∀ args w,(callFunc 186 args).run Tryz.prog w=.ok (.enter 186 args) w:=enters_of Tryz.func186 (by kernel_rfl) rfl
theorem aKx:∀ args w,(callFunc 187 args).run Tryz.prog w=.ok (.enter 187 args) w:=enters_of Tryz.func187 (by kernel_rfl) rfl
theorem zJ:∀ args w,(callFunc 188 args).run Tryz.prog w=.ok (.enter 188 args) w:=enters_of Tryz.func188 (by kernel_rfl) rfl
theorem aKw:∀ args w,(callFunc 191 args).run Tryz.prog w=.ok (.enter 191 args) w:=enters_of Tryz.func191 (by kernel_rfl) rfl
theorem aKv:∀ args w,(callFunc 193 args).run Tryz.prog w=.ok (.enter 193 args) w:=enters_of Tryz.func193 (by kernel_rfl) rfl
theorem tK:∀ args w,(callFunc 194 args).run Tryz.prog w=.ok (.enter 194 args) w:=enters_of Tryz.func194 (by kernel_rfl) rfl
theorem aKu:∀ args w,(callFunc 195 args).run Tryz.prog w=.ok (.enter 195 args) w:=enters_of Tryz.func195 (by kernel_rfl) rfl
theorem aKt:∀ args w,(callFunc 196 args).run Tryz.prog w=.ok (.enter 196 args) w:=enters_of Tryz.func196 (by kernel_rfl) rfl
theorem aKs:∀ args w,(callFunc 197 args).run Tryz.prog w=.ok (.enter 197 args) w:=enters_of Tryz.func197 (by kernel_rfl) rfl
theorem aKr:∀ args w,(callFunc 198 args).run Tryz.prog w=.ok (.enter 198 args) w:=enters_of Tryz.func198 (by kernel_rfl) rfl
theorem aKq:∀ args w,(callFunc 199 args).run Tryz.prog w=.ok (.enter 199 args) w:=enters_of Tryz.func199 (by kernel_rfl) rfl
theorem aKp:∀ args w,(callFunc 200 args).run Tryz.prog w=.ok (.enter 200 args) w:=enters_of Tryz.func200 (by kernel_rfl) rfl
theorem aKo:∀ args w,(callFunc 201 args).run Tryz.prog w=.ok (.enter 201 args) w:=enters_of Tryz.func201 (by kernel_rfl) rfl
theorem zI:∀ args w,(callFunc 202 args).run Tryz.prog w=.ok (.enter 202 args) w:=enters_of Tryz.func202 (by kernel_rfl) rfl
theorem zH:∀ args w,(callFunc 203 args).run Tryz.prog w=.ok (.enter 203 args) w:=enters_of Tryz.func203 (by kernel_rfl) rfl
theorem aKn:∀ args w,(callFunc 204 args).run Tryz.prog w=.ok (.enter 204 args) w:=enters_of Tryz.func204 (by kernel_rfl) rfl
theorem aKm:∀ args w,(callFunc 205 args).run Tryz.prog w=.ok (.enter 205 args) w:=enters_of Tryz.func205 (by kernel_rfl) rfl
theorem aKl:∀ args w,(callFunc 206 args).run Tryz.prog w=.ok (.enter 206 args) w:=enters_of Tryz.func206 (by kernel_rfl) rfl
theorem aKk:∀ args w,(callFunc 207 args).run Tryz.prog w=.ok (.enter 207 args) w:=enters_of Tryz.func207 (by kernel_rfl) rfl
theorem aKj:∀ args w,(callFunc 208 args).run Tryz.prog w=.ok (.enter 208 args) w:=enters_of Tryz.func208 (by kernel_rfl) rfl
theorem aKi:∀ args w,(callFunc 209 args).run Tryz.prog w=.ok (.enter 209 args) w:=enters_of Tryz.func209 (by kernel_rfl) rfl
theorem aKh:∀ args w,(callFunc 210 args).run Tryz.prog w=.ok (.enter 210 args) w:=enters_of Tryz.func210 (by kernel_rfl) rfl
theorem aKg:∀ args w,(callFunc 211 args).run Tryz.prog w=.ok (.enter 211 args) w:=enters_of Tryz.func211 (by kernel_rfl) rfl
theorem qG:∀ args w,(callFunc 212 args).run Tryz.prog w=.ok (.enter 212 args) w:=enters_of Tryz.func212 (by kernel_rfl) rfl
theorem zG:∀ args w,(callFunc 213 args).run Tryz.prog w=.ok (.enter 213 args) w:=enters_of Tryz.func213 (by kernel_rfl) rfl
theorem aKf:∀ args w,(callFunc 214 args).run Tryz.prog w=.ok (.enter 214 args) w:=enters_of Tryz.func214 (by kernel_rfl) rfl
theorem zF:∀ args w,(callFunc 215 args).run Tryz.prog w=.ok (.enter 215 args) w:=enters_of Tryz.func215 (by kernel_rfl) rfl
theorem zE:∀ args w,(callFunc 216 args).run Tryz.prog w=.ok (.enter 216 args) w:=enters_of Tryz.func216 (by kernel_rfl) rfl
theorem qF:∀ args w,(callFunc 217 args).run Tryz.prog w=.ok (.enter 217 args) w:=enters_of Tryz.func217 (by kernel_rfl) rfl
theorem aKe:∀ args w,(callFunc 228 args).run Tryz.prog w=.ok (.enter 228 args) w:=enters_of Tryz.func228 (by kernel_rfl) rfl
theorem aKd:∀ args w,(callFunc 229 args).run Tryz.prog w=.ok (.enter 229 args) w:=enters_of Tryz.func229 (by kernel_rfl) rfl
theorem aKc:∀ args w,(callFunc 230 args).run Tryz.prog w=.ok (.enter 230 args) w:=enters_of Tryz.func230 (by kernel_rfl) rfl
theorem aKb:∀ args w,(callFunc 231 args).run Tryz.prog w=.ok (.enter 231 args) w:=enters_of Tryz.func231 (by kernel_rfl) rfl
theorem aKa:∀ args w,(callFunc 234 args).run Tryz.prog w=.ok (.enter 234 args) w:=enters_of Tryz.func234 (by kernel_rfl) rfl
theorem tJ:∀ args w,(callFunc 241 args).run Tryz.prog w=.ok (.enter 241 args) w:=enters_of Tryz.func241 (by kernel_rfl) rfl
end Go.Proofs.YtijnkglkchhomaaGreat
set_option linter.unusedVariables false
namespace Go.Proofs.YtijnkglkchhomaaGreat
open Go Go.Abs
end Go.Proofs.YtijnkglkchhomaaGreat
set_option linter.unusedVariables false
set_option linter.unusedSimpArgs false
namespace Go.Proofs.YtijnkglkchhomaaGreat
open Go Go.Abs Go.RowKit Go.Lib
theorem aGx {P:Program} (w:World) {o:Oper} {a:Act} {K:Act→World→Prop} {Q:Exit→Act→World→Prop} (d s:Operand) (t t':TypeId)
    (ho:o.op=.call { callee:=.builtin .copy,args:=#[d,s],argTypes:=#[t,t'] }) (v u:Value) (hd:a.eval d=v) (hs:a.eval s=u) {v':Value} {w':World}
    (hr:(Builtin.copy_ #[t,t'] o.type #[v,u]).run P w=.ok v' w') (h:K (a.put o.dst v') w'):o.wp P a w K Q:=by
  unfold Oper.wp execOp
  simp only[ho,resolve,invoke,builtin,Sem.run_bind,Sem.run_pure,Result.andThen_ok,List.map_toArray,List.map_cons,List.map_nil,hd,hs,hr]
  exact h
theorem vV {P:Program} (w:World) {ops:Array Oper} {rest:List Oper} {o:Oper} {a:Act} {Q:Exit→Act→World→Prop} (hgd:o.guard=none) (d s:Operand) (t t':TypeId)
    (ho:o.op=.call { callee:=.builtin .copy,args:=#[d,s],argTypes:=#[t,t'] }) (v u:Value) (hd:a.eval d=v) (hs:a.eval s=u) {v':Value} {w':World}
    (hr:(Builtin.copy_ #[t,t'] o.type #[v,u]).run P w=.ok v' w') (h:wpList P ops Q rest (a.put o.dst v') w'):wpList P ops Q (o::rest) a w :=
  wpList_plain hgd fun _ hK=>aGx w d s t t' ho v u hd hs hr (hK _ _ h)
theorem aBe {P:Program} {ops:Array Oper} {o:Oper} {a:Act} {w:World} {K:Act→World→Prop} {Q:Exit→Act→World→Prop} {E:Prop}
    (hg:o.guard=none) (d x:Operand) (dT sT:TypeId) (hop:o.op=Op.call { callee:=Callee.builtin Builtin.copy,args:=#[d,x],argTypes:=#[dT,sT] })
    (v u:Value) (hd:a.eval d=v) (hx:a.eval x=u) {v':Value} {w':World} (hr:(Builtin.copy_ #[dT,sT] o.type #[v,u]).run P w=.ok v' w') (hK:K (a.put o.dst v') w') :
    if Region.wanted o (yielded ops a.tmps)=true then Oper.wp P o a w K Q else E:=by
  have hw:Region.wanted o (yielded ops a.tmps)=true:=by simp [Region.wanted,hg]
  rw[if_pos hw]
  exact aGx w d x dT sT hop v u hd hx hr hK
theorem uB {P:Program} (w:World) (dT sT ty elem:TypeId) (g o dLen dCap k m:Nat) (a:Addr) (sLen sCap:Nat) (cur:Array Value) (t:TypeId) (cs:List Value)
    (hu:P.underlying dT=some (.slice elem)) (hs:cells? P elem=some k) (hg:w.heap[g]?=some (.cells cur t (0,0))) (hm:Nat.min sLen dLen=m) (hn:cs.length=m*k)
    (hsrc:∀ j v,cs[j]?=some v→w.cell? (a.add j)=some v) (hfit:o+cs.length≤cur.size) (h1:∀ v∈cs,v.oneCell'=true) :
    (Builtin.copy_ #[dT,sT] ty #[.slice (some ⟨g,o,none⟩) dLen dCap,.slice (some a) sLen sCap]).run P w =
      .ok (goInt m) (w.setRow g (cur.toList.take o++cs++cur.toList.drop (o+cs.length)).toArray):=by
  have hf:=run_firstCells_some (P:=P) w k m a sLen sCap cs hn hsrc
  have hst:=run_storeCells_at P g o t cs 0 cur w hg (by simpa using hfit) h1
  simp only[Nat.add_zero] at hst
  simp [Builtin.copy_,run_underlying hu,Builtin.lenOf,eC hs,hm,hf,hst]
theorem aBn {l:List Value} {o:Nat} {cs:List Value} (h:o+cs.length≤l.length) (q:Nat):(l.take o++cs++l.drop (o+cs.length))[q]?=if q<o then l[q]? else if q<o+cs.length then cs[q - o]? else l[q]?:=by
  have ht:(l.take o).length=o:=by rw[List.length_take]; omega
  rw[List.append_assoc]
  by_cases h1:q<o
  · rw[if_pos h1,List.getElem?_append_left (by omega),List.getElem?_take,if_pos h1]
  · rw[if_neg h1,List.getElem?_append_right (by omega),ht]
    by_cases h2:q<o+cs.length
    · rw[if_pos h2,List.getElem?_append_left (by omega)]
    · rw[if_neg h2,List.getElem?_append_right (by omega),List.getElem?_drop]
      congr 1; omega
theorem aB4 (w:World) (vb b o m vc lb cb:Nat) (vcur cur:Array Value) (T1 T2:TypeId) (hv:w.heap[vb]?=some (.cells vcur T1 (0,0))) (hb:w.heap[b]?=some (.cells cur T2 (0,0))) (hne:vb≠b) (h0:cur.size≠0) :
    (callFunc 232 #[.slice (some ⟨vb,0,none⟩) m vc,.slice (some ⟨b,o,none⟩) lb cb]).run Tryz.prog w=.ok (.value (.bool false)) w:=by
  rw[run_callFunc_extern Tryz.func232 (by kernel_rfl) (by kernel_rfl) (by kernel_rfl) (e:=Extern.SlicesOverlaps.overlaps #[37,37] #[4]) (by kernel_rfl),
    Lib.run_overlaps_apart w 37 4 107 (elem?_inv kI) 2 (eC gP) ⟨vb,0,none⟩ ⟨b,o,none⟩ m vc lb cb hne T1 T2 vcur.size cur.size (by simp [World.shape?,hv]) (by simp [World.shape?,hb]) h0 (by simp [World.frozen?,hv]) (by simp [World.frozen?,hv])]
  rfl
set_option maxRecDepth 100000 in
theorem aF4 (b n c i vb vc:Nat) (cur vcur:Array Value) (T T2:TypeId) (w:World) (hb:w.heap[b]?=some (.cells cur T (0,0))) (hv:w.heap[vb]?=some (.cells vcur T2 (0,0))) (hne:vb≠b)
    (hi:i<n) (hroom:n+1≤c) (hc63:c≤9223372036854775807) (hsz:c*2≤cur.size) (hvs:2≤vcur.size) (hone:∀ (j:Nat) (v:Value),j<n*2→cur[j]?=some v→v.oneCell'=true) (honv:∀ (j:Nat) (v:Value),j<2→vcur[j]?=some v→v.oneCell'=true) :
    Calls Tryz.prog 209 #[.slice (some ⟨b,0,none⟩) n c,.int .i64 i,.slice (some ⟨vb,0,none⟩) 1 vc] w fun e w'=>e=.returned (.slice (some ⟨b,0,none⟩) (n+1) c) ∧
      ∃ cs,w'=w.drew.setRow b cs∧cs.size=cur.size∧∀ q,q<(n+1)*2→cs[q]?=if q<i*2 then cur[q]? else if q<i*2+2 then vcur[q - i*2]? else cur[q - 2]?:=by
  have hb':w.drew.heap[b]?=some (.cells cur T (0,0)):=hb
  have hcell:∀ j,j<cur.size→w.drew.cell? ⟨b,j,none⟩=cur[j]?:=fun j hj=>by simp [World.cell?,hb']
  obtain ⟨mid,hmid⟩:∃ mid,mid=(cur.toList.drop (i*2)).take ((n - i)*2):=⟨_,rfl⟩
  have hml:mid.length=(n - i)*2:=by rw[hmid]; simp only[List.length_take,List.length_drop,Array.length_toList]; omega
  have hmg:∀ t,t<(n - i)*2→mid[t]?=cur[i*2+t]?:=fun t ht=>by rw[hmid,List.getElem?_take,if_pos ht,List.getElem?_drop,Array.getElem?_toList]
  have hm1:∀ v∈mid,v.oneCell'=true:=fun v hv=>by
    obtain ⟨t,ht⟩:=List.getElem?_of_mem hv
    have ht2:=(List.getElem?_eq_some_iff.1 ht).1
    rw[hml] at ht2
    rw[hmg t ht2] at ht
    exact hone _ _ (by omega) ht
  obtain ⟨cs1,hcs1⟩:∃ cs1,cs1=(cur.toList.take ((i+1)*2)++mid++cur.toList.drop ((i+1)*2+mid.length)).toArray:=⟨_,rfl⟩
  have hc1s:cs1.size=cur.size:=by rw[hcs1]; simp only[List.size_toArray,List.length_append,List.length_take,List.length_drop,Array.length_toList,hml]; omega
  have hcp1:∀ ty dc sc,(Builtin.copy_ #[37,37] ty #[.slice (some ⟨b,(i+1)*2,none⟩) (n - i) dc,.slice (some ⟨b,i*2,none⟩) (n+1 - i) sc]).run Tryz.prog w.drew=.ok (goInt ((n - i:Nat):Int)) (w.drew.setRow b cs1):=fun ty dc sc=>by
    rw[hcs1]
    exact uB w.drew 37 37 ty 107 b ((i+1)*2) (n - i) dc 2 (n - i) ⟨b,i*2,none⟩ (n+1 - i) sc cur T mid (elem?_inv kI) gP hb' (by simp only[Nat.min_def]; split <;> omega) hml
      (fun j v hj=>by
        have hj2:=(List.getElem?_eq_some_iff.1 hj).1
        rw[hml] at hj2
        rw[hmg j hj2] at hj
        rw[Addr.add_lit]
        exact(hcell _ (by omega)).trans hj) (by rw[hml]; omega) hm1
  obtain ⟨W1,hW1⟩:∃ W1,W1=w.drew.setRow b cs1:=⟨_,rfl⟩
  have hb1:W1.heap[b]?=some (.cells cs1 T (0,0)):=by rw[hW1]; exact setRow_heap _ b cur cs1 T _ hb'
  have hv1:W1.heap[vb]?=some (.cells vcur T2 (0,0)):=by rw[hW1]; exact(setRow_other w.drew b vb cs1 hne).trans hv
  obtain ⟨vs,hvl⟩:∃ vs,vs=vcur.toList.take 2:=⟨_,rfl⟩
  have hvsl:vs.length=1*2:=by rw[hvl]; simp only[List.length_take,Array.length_toList]; omega
  have hvg:∀ t,t<2→vs[t]?=vcur[t]?:=fun t ht=>by rw[hvl,List.getElem?_take,if_pos ht,Array.getElem?_toList]
  obtain ⟨cs2,hcs2⟩:∃ cs2,cs2=(cs1.toList.take (i*2)++vs++cs1.toList.drop (i*2+vs.length)).toArray:=⟨_,rfl⟩
  have hcp2:∀ (W:World),W.heap=W1.heap→∀ ty dc,(Builtin.copy_ #[37,37] ty #[.slice (some ⟨b,i*2,none⟩) (n+1 - i) dc,.slice (some ⟨vb,0,none⟩) 1 vc]).run Tryz.prog W=.ok (goInt 1) (W.setRow b cs2):=fun W hW ty dc=>by
    rw[hcs2]
    exact uB W 37 37 ty 107 b (i*2) (n+1 - i) dc 2 1 ⟨vb,0,none⟩ 1 vc cs1 T vs (elem?_inv kI) gP (by rw[hW]; exact hb1) (by simp only[Nat.min_def]; split <;> omega) hvsl
      (fun j v hj=>by
        have hj2:=(List.getElem?_eq_some_iff.1 hj).1
        rw[hvg j (by omega)] at hj
        rw[Addr.add_lit,Nat.zero_add]
        simp only[World.cell?,hW,hv1]
        exact hj) (by rw[hvsl,hc1s]; omega) (fun v hv=>by
        obtain ⟨t,ht⟩:=List.getElem?_of_mem hv
        have ht2:=(List.getElem?_eq_some_iff.1 ht).1
        rw[hvg t (by omega)] at ht
        exact honv t v (by omega) ht)
  have hov:∀ o lb cb,(callFunc 232 #[.slice (some ⟨vb,0,none⟩) 1 vc,.slice (some ⟨b,o,none⟩) lb cb]).run Tryz.prog w=.ok (.value (.bool false)) w:=fun o lb cb=>aB4 w vb b o 1 vc lb cb vcur cur T2 T hv hb hne (by omega)
  have hfin:∀ q,q<(n+1)*2→cs2[q]?=if q<i*2 then cur[q]? else if q<i*2+2 then vcur[q - i*2]? else cur[q - 2]?:=fun q hq=>by
    rw[hcs2,List.getElem?_toArray,aBn (by rw[hvsl,Array.length_toList,hc1s]; omega),hvsl]
    have e1:cs1.toList[q]?=if q<(i+1)*2 then cur[q]? else if q<(i+1)*2+(n - i)*2 then mid[q - (i+1)*2]? else cur[q]?:=by
      rw[hcs1,aBn (by rw[hml,Array.length_toList]; omega),hml,Array.getElem?_toList]
    by_cases h1:q<i*2
    · rw[if_pos h1,if_pos h1,e1,if_pos (by omega)]
    · rw[if_neg h1,if_neg h1]
      by_cases h2:q<i*2+2
      · rw[if_pos h2,if_pos h2,hvg _ (by omega)]
      · rw[if_neg h2,if_neg h2,e1,if_neg (by omega),if_pos (by omega),hmg _ (by omega)]
        congr 1; omega
  have hc2s:cs2.size=cur.size:=by rw[hcs2]; simp only[List.size_toArray,List.length_append,List.length_take,List.length_drop,Array.length_toList,hvsl,hc1s]; omega
  rw[← hW1] at hcp1
  have mixed:=bN
  have hz1:¬ (((1:Nat):Int)=0):=by decide
  have hz2:¬ ((i:Int)=(n:Int)):=by omega
  have hin:i≤n:=by omega
  have htn:((i:Int)+1).toNat=i+1:=by omega
  have hw1:IntKind.i64.wrap ((i:Int)+1)=(i:Int)+1:=by rw[IntKind.wrap_i64]; omega
  have hw2:IntKind.i64.wrap ((n:Int)+1)=(n:Int)+1:=by rw[IntKind.wrap_i64]; omega
  have hb1':(0:Int)≤(i:Int)+1:=by omega
  have hb2:¬ (c=i+1):=by omega
  have hb3:(i:Int)≤(n:Int)+1:=by omega
  have hb4:¬ (c=i):=by omega
  have hic:i≤c:=by omega
  have hgt:¬ ((c:Int)<(n:Int)+1):=by omega
  have hn0:(0:Int)≤(n:Int)+1:=by omega
  have htn2:((n:Int)+1).toNat=n+1:=by omega
  have hfin2:Hid (cs2.size=cur.size∧∀ q,q<(n+1)*2→cs2[q]?=if q<i*2 then cur[q]? else if q<i*2+2 then vcur[q - i*2]? else cur[q - 2]?):=⟨hc2s,hfin⟩
  clear hfin hc2s hcs2 hvg hvsl hvl hm1 hmg hml hmid hcs1 hc1s hcell hone honv hb1 hv1
  go_enter Tryz.func209,Tryz.ntmps209
  go_wp2_with (simp only[hov])
  go_region_law_o (refine aBe rfl _ _ 37 37 rfl _ _ (by simp [Act.eval,Act.put]) (by simp [Act.eval,Act.put]) (hcp1 _ _ _) ?_)
  go_wp2_with (at_builtin; refine vV _ rfl _ _ 37 37 rfl _ _ rfl rfl (hcp2 _ rfl _ _) ?_)
  go_ret
  refine⟨rfl,cs2,?_,hfin2.out⟩
  exact setRow_setRow _ _ _ _
def aL2 (w:World) (x:Option Nat) (n i:Nat) (old:Nat→Option Value) (vcur:Array Value) (e:Ending) (w':World):Prop :=
  ∃ b' cap' cs T,e=.returned (.slice (some ⟨b',0,none⟩) (n+1) cap')∧n+1≤cap'∧cap'≤9223372036854775807∧w'.heap[b']?=some (.cells cs T (0,0))∧cap'*2≤cs.size∧(x=some b'∨w.heap.size≤b')∧w.heap.size≤w'.heap.size∧(∀ b,b<w.heap.size→x≠some b→w'.heap[b]?=w.heap[b]?)∧w'.os=w.os∧(w'.tape=w.tape∧w.drawn≤w'.drawn)∧w'.output=w.output ∧
    ∀ q,q<(n+1)*2→cs[q]?=if q<i*2 then old q else if q<i*2+2 then vcur[q - i*2]? else old (q - 2)
theorem sN (w:World) (b:Nat) (cs:Array Value):(w.setRow b cs).heap.size=w.heap.size:=by simp [World.setRow]
theorem aIv {w w1:World} {b n c i:Nat} {cur vcur cs:Array Value} {T:TypeId} (h1:w1.heap=w.heap) (h2:w1.os=w.os) (h3:w1.tape=w.tape∧w.drawn≤w1.drawn) (h4:w1.output=w.output) (hb:w.heap[b]?=some (.cells cur T (0,0))) (hroom:n+1≤c) (hc63:c≤9223372036854775807) (hsz:c*2≤cur.size) (hcs:cs.size=cur.size)
    (hq:∀ q,q<(n+1)*2→cs[q]?=if q<i*2 then cur[q]? else if q<i*2+2 then vcur[q - i*2]? else cur[q - 2]?):aL2 w (some b) n i (fun q=>cur[q]?) vcur (.returned (.slice (some ⟨b,0,none⟩) (n+1) c)) (w1.setRow b cs):=by
  refine⟨b,c,cs,T,rfl,hroom,hc63,setRow_heap _ b cur cs T _ (by rw[h1]; exact hb),by omega,.inl rfl,by rw[sN,h1]; exact Nat.le_refl _,fun b' hb' hne=>?_,h2,h3,h4,hq⟩
  rw[setRow_other w1 b b' cs (fun e=>hne (by rw[e])),h1]
set_option maxRecDepth 100000 in
theorem aAe (b n c vb vc:Nat) (cur vcur:Array Value) (T T2:TypeId) (w:World) (hb:w.heap[b]?=some (.cells cur T (0,0))) (hv:w.heap[vb]?=some (.cells vcur T2 (0,0)))
    (hroom:n+1≤c) (hc63:c≤9223372036854775807) (hsz:c*2≤cur.size) (hvs:2≤vcur.size) (honv:∀ (j:Nat) (v:Value),j<2→vcur[j]?=some v→v.oneCell'=true) :
    Calls Tryz.prog 209 #[.slice (some ⟨b,0,none⟩) n c,.int .i64 n,.slice (some ⟨vb,0,none⟩) 1 vc] w (aL2 w (some b) n n (fun q=>cur[q]?) vcur):=by
  obtain ⟨he,hck,hk0,i0,z,hi0,hzz,hik,hby,hzc⟩:=appT?_inv nB
  obtain ⟨vs,hvl⟩:∃ vs,vs=vcur.toList.take 2:=⟨_,rfl⟩
  have hvsl:vs.length=1*2:=by rw[hvl]; simp only[List.length_take,Array.length_toList]; omega
  have hvg:∀ t,t<2→vs[t]?=vcur[t]?:=fun t ht=>by rw[hvl,List.getElem?_take,if_pos ht,Array.getElem?_toList]
  obtain ⟨cs,hcs⟩:∃ cs,cs=(cur.toList.take (n*2)++vs++cur.toList.drop (n*2+vs.length)).toArray:=⟨_,rfl⟩
  have hrun:∀ ty,(Builtin.append_ #[37,37] ty #[.slice (some ⟨b,0,none⟩) n c,.slice (some ⟨vb,0,none⟩) 1 vc]).run Tryz.prog w=.ok (.slice (some ⟨b,0,none⟩) (n+1) c) (w.setRow b cs):=fun ty=>by
    rw[hcs]
    exact mT he hck b n c cur hb ⟨vb,0,none⟩ 1 vc vs hvsl
      (fun j v hj=>by
        have hj2:=(List.getElem?_eq_some_iff.1 hj).1
        rw[hvg j (by omega)] at hj
        rw[Addr.add_lit,Nat.zero_add]
        simp only[World.cell?,hv]
        exact hj) (fun v hv=>by
        obtain ⟨t,ht⟩:=List.getElem?_of_mem hv
        have ht2:=(List.getElem?_eq_some_iff.1 ht).1
        rw[hvg t (by omega)] at ht
        exact honv t v (by omega) ht) hroom (by rw[hvsl]; omega)
  have hsz2:cs.size=cur.size:=by rw[hcs]; simp only[List.size_toArray,List.length_append,List.length_take,List.length_drop,Array.length_toList,hvsl]; omega
  have hq:Hid (aL2 w (some b) n n (fun q=>cur[q]?) vcur (.returned (.slice (some ⟨b,0,none⟩) (n+1) c)) (w.setRow b cs)):=aIv rfl rfl ⟨rfl,Nat.le_refl _⟩ rfl hb hroom hc63 hsz hsz2 (fun q hq=>by
    rw[hcs,List.getElem?_toArray,aBn (by rw[hvsl,Array.length_toList]; omega),hvsl,Array.getElem?_toList]
    by_cases h1:q<n*2
    · rw[if_pos h1,if_pos h1]
    · rw[if_neg h1,if_neg h1,if_pos (by omega),if_pos (by omega),hvg _ (by omega)])
  have mixed:=bN
  have hz1:¬ (((1:Nat):Int)=0):=by decide
  have hnc:n≤c:=by omega
  clear hcs hvg hvsl hvl honv hsz2 hv hb
  go_enter Tryz.func209,Tryz.ntmps209
  go_wp2_with (at_builtin; refine Lib.wpList_append_run _ rfl _ _ _ _ rfl _ _ rfl rfl _ _ (hrun _) ?_)
  go_ret
  exact hq.out
set_option maxRecDepth 100000 in
theorem oC (base:Option Addr) (n c vb vc:Nat) (old:Nat→Option Value) (x:Option Nat) (vcur:Array Value) (T2:TypeId) (w:World) (hv:w.heap[vb]?=some (.cells vcur T2 (0,0)))
    (hnc:n≤c) (hroom:c<n+1) (hbig:(n+1)*24≤140737488355328) (hnil:base=none→n=0) (olds:List Value) (hol:olds.length=n*2) (hog:∀ q,q<n*2→olds[q]?=old q)
    (hcs:∀ a,base=some a→∀ j v,olds[j]?=some v→w.cell? (a.add j)=some v) (hvs:2≤vcur.size) (honv:∀ (j:Nat) (v:Value),j<2→vcur[j]?=some v→v.oneCell'=true) :
    Calls Tryz.prog 209 #[.slice base n c,.int .i64 n,.slice (some ⟨vb,0,none⟩) 1 vc] w (aL2 w x n n old vcur):=by
  obtain ⟨he,hck,hk0,i0,z,hi0,hzz,hik,hby,hzc⟩:=appT?_inv nB
  obtain ⟨vs,hvl⟩:∃ vs,vs=vcur.toList.take 2:=⟨_,rfl⟩
  have hvsl:vs.length=1*2:=by rw[hvl]; simp only[List.length_take,Array.length_toList]; omega
  have hvg:∀ t,t<2→vs[t]?=vcur[t]?:=fun t ht=>by rw[hvl,List.getElem?_take,if_pos ht,Array.getElem?_toList]
  have hsrc:Src Tryz.prog i0.size 37 (.slice (some ⟨vb,0,none⟩) 1 vc) 1 vs w:=by
    rw[hik]
    exact Src.ofSlice w (elem?_inv he) ⟨vb,0,none⟩ 1 vc vs hvsl (fun j v hj=>by
        have hj2:=(List.getElem?_eq_some_iff.1 hj).1
        rw[hvg j (by omega)] at hj
        rw[Addr.add_lit,Nat.zero_add]
        simp only[World.cell?,hv]
        exact hj) (fun v hv=>by
        obtain ⟨t,ht⟩:=List.getElem?_of_mem hv
        have ht2:=(List.getElem?_eq_some_iff.1 ht).1
        rw[hvg t (by omega)] at ht
        exact honv t v (by omega) ht)
  have hold:(Builtin.firstCells i0.size n (.slice base n c)).run Tryz.prog w.drew=.ok olds.toArray w.drew:=by
    rw[hik]
    cases base with
    | none =>
      have h0:=hnil rfl
      subst h0
      obtain rfl:olds=[]:=List.length_eq_zero_iff.1 (by omega)
      exact run_firstCells_none w.drew 2 0 0 c
    | some a =>
      exact run_firstCells_some w.drew 2 n a n c olds hol (fun j v hj=>hcs a rfl j v hj)
  have hrun:∀ ty,(Builtin.append_ #[37,37] ty #[.slice base n c,.slice (some ⟨vb,0,none⟩) 1 vc]).run Tryz.prog w=_:=fun ty =>
    run_append_grow_src w 37 37 ty 107 i0 z (elem?_inv he) hi0 hzz base n c olds hold _ 1 vs hsrc hroom (by omega) (by rw[hby]; exact growslice_fits hroom hbig)
  obtain ⟨G,hG⟩:∃ G,G=grownCap w (n+1) c 107:=⟨_,rfl⟩
  have hGn:n+1≤G:=by rw[hG]; exact grownCap_ge w _ _ _
  have hG63:G≤9223372036854775807:=by
    have:=grownCap_le_maxLen w (n+1) c 107 (by unfold maxLen; omega)
    rw[← hG] at this
    unfold maxLen at this
    omega
  rw[← hG] at hrun
  obtain ⟨row,hrow⟩:∃ row:Array Value,row=(olds++vs).toArray++Builtin.zeroCells z.cells (G - (n+1)):=⟨_,rfl⟩
  rw[← hrow] at hrun
  have hrs:row.size=G*2:=by rw[hrow,Array.size_append,size_zeroCells,hzc,List.size_toArray,List.length_append,hol,hvsl]; omega
  have hq:Hid (aL2 w x n n old vcur (.returned (.slice (some ⟨w.heap.size,0,none⟩) (n+1) G)) (w.drew.alloc (.cells row 107 (0,0)))):=by
    refine⟨w.heap.size,G,row,107,rfl,hGn,hG63,heap_alloc_new w.drew _,by omega,.inr (Nat.le_refl _),by simp,fun b' hb' _=>Below.heap_alloc w.drew _ _ hb',rfl,⟨rfl,Nat.le_succ _⟩,rfl,fun q hq=>?_⟩
    rw[hrow,Array.getElem?_append_left (by rw[List.size_toArray,List.length_append,hol,hvsl]; omega),List.getElem?_toArray]
    by_cases h1:q<n*2
    · rw[if_pos h1,List.getElem?_append_left (by omega),hog q h1]
    · rw[if_neg h1,if_pos (by omega),List.getElem?_append_right (by omega),hol,hvg _ (by omega)]
  have mixed:=bN
  have hz1:¬ (((1:Nat):Int)=0):=by decide
  clear hrow hrs hvg hvsl hvl honv hv hsrc hold hG hGn hG63 hog hol
  go_enter Tryz.func209,Tryz.ntmps209
  cases base with
  | none =>
    have h0:=hnil rfl
    subst h0
    go_wp2_with (at_builtin; refine Lib.wpList_append_run _ rfl _ _ _ _ rfl _ _ rfl rfl _ _ (hrun _) ?_)
    go_ret
    exact hq.out
  | some a =>
    obtain ⟨ab,ao,asp⟩:=a
    go_wp2_with (at_builtin; refine Lib.wpList_append_run _ rfl _ _ _ _ rfl _ _ rfl rfl _ _ (hrun _) ?_)
    all_goals (go_ret; exact hq.out)
set_option maxRecDepth 100000 in
theorem aIp (b n c i vb vc:Nat) (cur vcur:Array Value) (T T2:TypeId) (w:World) (hb:w.heap[b]?=some (.cells cur T (0,0))) (hv:w.heap[vb]?=some (.cells vcur T2 (0,0)))
    (hi:i<n) (hnc:n≤c) (hroom:c<n+1) (hbig:(n+1)*24≤140737488355328) (hsz:c*2≤cur.size) (hvs:2≤vcur.size) (hone:∀ (j:Nat) (v:Value),j<n*2→cur[j]?=some v→v.oneCell'=true) (honv:∀ (j:Nat) (v:Value),j<2→vcur[j]?=some v→v.oneCell'=true) :
    Calls Tryz.prog 209 #[.slice (some ⟨b,0,none⟩) n c,.int .i64 i,.slice (some ⟨vb,0,none⟩) 1 vc] w (aL2 w (some b) n i (fun q=>cur[q]?) vcur):=by
  obtain ⟨he,hck,hk0,i0,z,hi0,hzz,hik,hby,hzc⟩:=appT?_inv nB
  have hbw:b<w.heap.size:=(Array.getElem?_eq_some_iff.1 hb).1
  have hvw:vb<w.heap.size:=(Array.getElem?_eq_some_iff.1 hv).1
  have hcell:∀ j,j<cur.size→w.drew.cell? ⟨b,j,none⟩=cur[j]?:=fun j hj=>by
    have hb':w.drew.heap[b]?=some (.cells cur T (0,0)):=hb
    simp [World.cell?,hb']
  obtain ⟨vs,hvl⟩:∃ vs,vs=vcur.toList.take 2:=⟨_,rfl⟩
  have hvsl:vs.length=1*2:=by rw[hvl]; simp only[List.length_take,Array.length_toList]; omega
  have hvg:∀ t,t<2→vs[t]?=vcur[t]?:=fun t ht=>by rw[hvl,List.getElem?_take,if_pos ht,Array.getElem?_toList]
  have hv1:∀ v∈vs,v.oneCell'=true:=fun v hv=>by
    obtain ⟨t,ht⟩:=List.getElem?_of_mem hv
    have ht2:=(List.getElem?_eq_some_iff.1 ht).1
    rw[hvg t (by omega)] at ht
    exact honv t v (by omega) ht
  obtain ⟨pre,hpl⟩:∃ pre,pre=cur.toList.take (i*2):=⟨_,rfl⟩
  have hpll:pre.length=i*2:=by rw[hpl]; simp only[List.length_take,Array.length_toList]; omega
  have hpg:∀ t,t<i*2→pre[t]?=cur[t]?:=fun t ht=>by rw[hpl,List.getElem?_take,if_pos ht,Array.getElem?_toList]
  obtain ⟨mid,hmid⟩:∃ mid,mid=(cur.toList.drop (i*2)).take ((n - i)*2):=⟨_,rfl⟩
  have hml:mid.length=(n - i)*2:=by rw[hmid]; simp only[List.length_take,List.length_drop,Array.length_toList]; omega
  have hmg:∀ t,t<(n - i)*2→mid[t]?=cur[i*2+t]?:=fun t ht=>by rw[hmid,List.getElem?_take,if_pos ht,List.getElem?_drop,Array.getElem?_toList]
  have hm1:∀ v∈mid,v.oneCell'=true:=fun v hv=>by
    obtain ⟨t,ht⟩:=List.getElem?_of_mem hv
    have ht2:=(List.getElem?_eq_some_iff.1 ht).1
    rw[hml] at ht2
    rw[hmg t ht2] at ht
    exact hone _ _ (by omega) ht
  have hold:(Builtin.firstCells i0.size i (.slice (some ⟨b,0,none⟩) i c)).run Tryz.prog w.drew=.ok pre.toArray w.drew:=by
    rw[hik]
    exact run_firstCells_some w.drew 2 i ⟨b,0,none⟩ i c pre hpll (fun j v hj=>by
      have hj2:=(List.getElem?_eq_some_iff.1 hj).1
      rw[hpll] at hj2
      rw[hpg j hj2] at hj
      rw[Addr.add_lit,Nat.zero_add]
      exact(hcell _ (by omega)).trans hj)
  have hik2:i+(n+1 - i)=n+1:=by omega
  have hkk:(n:Int)+1 - (i:Int)=((n+1 - i:Nat):Int):=by omega
  have hrun:∀ ty,(Builtin.append_ #[37,3] ty #[.slice (some ⟨b,0,none⟩) i c,.int .i64 ((n:Int)+1 - (i:Int))]).run Tryz.prog w =
      .ok (.slice (some ⟨w.heap.size,0,none⟩) (n+1) (grownCap w (n+1) c 107)) (w.drew.alloc (.cells (pre.toArray++Builtin.zeroCells z.cells (n+1 - i)++Builtin.zeroCells z.cells (grownCap w (n+1) c 107 - (n+1))) 107)):=fun ty=>by
    have h:=Lib.run_append_grow_zeros w 37 3 ty 107 i0 z .i64 .i64 (elem?_inv he) Tryz.underlying3 hi0 hzz (some ⟨b,0,none⟩) i c pre hold (n+1 - i) (by omega) (by omega) (by omega) (by omega) (by rw[hby]; omega) (by rw[hby,hik2]; exact growslice_fits hroom hbig)
    rw[hik2] at h
    rw[hkk]
    exact h
  obtain ⟨G,hG⟩:∃ G,G=grownCap w (n+1) c 107:=⟨_,rfl⟩
  have hGn:n+1≤G:=by rw[hG]; exact grownCap_ge w _ _ _
  have hG63:G≤9223372036854775807:=by
    have:=grownCap_le_maxLen w (n+1) c 107 (by unfold maxLen; omega)
    rw[← hG] at this
    unfold maxLen at this
    omega
  rw[← hG] at hrun
  obtain ⟨row,hrow⟩:∃ row:Array Value,row=pre.toArray++Builtin.zeroCells z.cells (n+1 - i)++Builtin.zeroCells z.cells (G - (n+1)):=⟨_,rfl⟩
  rw[← hrow] at hrun
  have hrs:row.size=G*2:=by rw[hrow,Array.size_append,Array.size_append,size_zeroCells,size_zeroCells,hzc,List.size_toArray,hpll]; omega
  have hrg:∀ q,q<i*2→row[q]?=cur[q]?:=fun q hq=>by
    rw[hrow,Array.append_assoc,Array.getElem?_append_left (by rw[List.size_toArray]; omega),List.getElem?_toArray,hpg q hq]
  obtain ⟨W1,hW1⟩:∃ W1,W1=w.drew.alloc (.cells row 107):=⟨_,rfl⟩
  rw[← hW1] at hrun
  have hN:W1.heap[w.heap.size]?=some (.cells row 107 (0,0)):=by rw[hW1]; exact heap_alloc_new w.drew _
  have hO:∀ b',b'<w.heap.size→W1.heap[b']?=w.heap[b']?:=fun b' h=>by rw[hW1]; exact Below.heap_alloc w.drew _ _ h
  obtain ⟨cs1,hcs1⟩:∃ cs1,cs1=(row.toList.take (i*2)++vs++row.toList.drop (i*2+vs.length)).toArray:=⟨_,rfl⟩
  have hc1s:cs1.size=G*2:=by rw[hcs1]; simp only[List.size_toArray,List.length_append,List.length_take,List.length_drop,Array.length_toList,hvsl,hrs]; omega
  have hcpA:∀ (W:World),W.heap=W1.heap→∀ ty dc,(Builtin.copy_ #[37,37] ty #[.slice (some ⟨w.heap.size,i*2,none⟩) (n+1 - i) dc,.slice (some ⟨vb,0,none⟩) 1 vc]).run Tryz.prog W=.ok (goInt 1) (W.setRow w.heap.size cs1):=fun W hW ty dc=>by
    rw[hcs1]
    exact uB W 37 37 ty 107 w.heap.size (i*2) (n+1 - i) dc 2 1 ⟨vb,0,none⟩ 1 vc row 107 vs (elem?_inv he) hck (by rw[hW]; exact hN) (by simp only[Nat.min_def]; split <;> omega) hvsl
      (fun j v hj=>by
        have hj2:=(List.getElem?_eq_some_iff.1 hj).1
        rw[hvg j (by omega)] at hj
        rw[Addr.add_lit,Nat.zero_add]
        simp only[World.cell?,hW,hO vb hvw,hv]
        exact hj) (by rw[hvsl,hrs]; omega) hv1
  obtain ⟨cs2,hcs2⟩:∃ cs2,cs2=(cs1.toList.take ((i+1)*2)++mid++cs1.toList.drop ((i+1)*2+mid.length)).toArray:=⟨_,rfl⟩
  have hc2s:cs2.size=G*2:=by rw[hcs2]; simp only[List.size_toArray,List.length_append,List.length_take,List.length_drop,Array.length_toList,hml,hc1s]; omega
  have hcpB:∀ (W:World),W.heap=(W1.setRow w.heap.size cs1).heap→∀ ty dc sc,(Builtin.copy_ #[37,37] ty #[.slice (some ⟨w.heap.size,(i+1)*2,none⟩) (n - i) dc,.slice (some ⟨b,i*2,none⟩) (n - i) sc]).run Tryz.prog W=.ok (goInt ((n - i:Nat):Int)) (W.setRow w.heap.size cs2):=fun W hW ty dc sc=>by
    rw[hcs2]
    exact uB W 37 37 ty 107 w.heap.size ((i+1)*2) (n - i) dc 2 (n - i) ⟨b,i*2,none⟩ (n - i) sc cs1 107 mid (elem?_inv he) hck (by rw[hW]; exact setRow_heap _ _ row cs1 _ _ hN) (by simp only[Nat.min_def]; split <;> omega) hml
      (fun j v hj=>by
        have hj2:=(List.getElem?_eq_some_iff.1 hj).1
        rw[hml] at hj2
        rw[hmg j hj2] at hj
        rw[Addr.add_lit]
        simp only[World.cell?,hW,setRow_other W1 _ b cs1 (by omega:b≠w.heap.size),hO b hbw,hb]
        exact hj) (by rw[hml,hc1s]; omega) hm1
  have hq:∀ (W:World),W.heap=(W1.setRow w.heap.size cs1).heap→W.os=w.os→(W.tape=w.tape∧w.drawn≤W.drawn)→W.output=w.output→Hid (aL2 w (some b) n i (fun q=>cur[q]?) vcur (.returned (.slice (some ⟨w.heap.size,0,none⟩) (n+1) G)) (W.setRow w.heap.size cs2)):=fun W hW h1 h2 h3=>by
    refine⟨w.heap.size,G,cs2,107,rfl,hGn,hG63,setRow_heap _ _ cs1 cs2 _ _ (by rw[hW]; exact setRow_heap _ _ row cs1 _ _ hN),by omega,.inr (Nat.le_refl _),?_,fun b' hb' _=>?_,h1,h2,h3,fun q hq=>?_⟩
    · rw[sN,hW,sN,hW1]; simp
    · rw[setRow_other W _ b' cs2 (by omega),hW,setRow_other W1 _ b' cs1 (by omega),hO b' hb']
    · have e1:cs1.toList[q]?=if q<i*2 then row.toList[q]? else if q<i*2+1*2 then vs[q - i*2]? else row.toList[q]?:=by
        rw[hcs1,aBn (by rw[hvsl,Array.length_toList,hrs]; omega),hvsl]
      rw[hcs2,List.getElem?_toArray,aBn (by rw[hml,Array.length_toList,hc1s]; omega),hml]
      by_cases h1:q<i*2
      · rw[if_pos (by omega),if_pos h1,e1,if_pos h1,Array.getElem?_toList,hrg q h1]
      · rw[if_neg h1]
        by_cases h2:q<i*2+2
        · rw[if_pos (by omega),if_pos h2,e1,if_neg h1,if_pos (by omega),hvg _ (by omega)]
        · rw[if_neg (by omega),if_neg h2,if_pos (by omega),hmg _ (by omega)]
          congr 1; omega
  have hE:∀ x,(w.alloc (.cells row 107)).drew=x→x.heap=W1.heap:=fun x h=>by rw[← h,hW1]; rfl
  have hW1o:W1.os=w.os∧(W1.tape=w.tape∧w.drawn≤W1.drawn)∧W1.output=w.output:=by rw[hW1]; exact⟨rfl,⟨rfl,Nat.le_succ _⟩,rfl⟩
  have mixed:=bN
  have hz1:¬ (((1:Nat):Int)=0):=by decide
  have hz2:¬ ((i:Int)=(n:Int)):=by omega
  have hz3:(c:Int)<(n:Int)+1:=by omega
  have hGi:¬ (G=i):=by omega
  have hGim:¬ (G=i+1):=by omega
  have hci:¬ (c=i):=by omega
  have hw1:IntKind.i64.wrap ((i:Int)+1)=(i:Int)+1:=by rw[IntKind.wrap_i64]; omega
  have hw2:IntKind.i64.wrap ((n:Int)+1)=(n:Int)+1:=by rw[IntKind.wrap_i64]; omega
  have hw3:IntKind.i64.wrap ((n:Int)+1 - (i:Int))=(n:Int)+1 - (i:Int):=by rw[IntKind.wrap_i64]; omega
  have hb1:(0:Int)≤(i:Int)+1:=by omega
  have hin:i≤n:=by omega
  have htn:((i:Int)+1).toNat=i+1:=by omega
  have hb3:(i:Int)≤(n:Int):=by omega
  have hic:i≤c:=by omega
  have hi1:i≤n+1:=by omega
  clear hkk hold hrow hG hcs1 hcs2 hrg hrs hmid hml hmg hm1 hpl hpll hpg hvl hvsl hvg hv1 hcell hone honv hc1s hc2s hN hO hik2
  go_enter Tryz.func209,Tryz.ntmps209
  go_wp2_with (first
    | (at_builtin; refine Lib.wpList_append_run _ rfl _ _ _ _ rfl _ _ rfl rfl _ _ (hrun _) ?_)
    | (at_builtin; refine vV _ rfl _ _ 37 37 rfl _ _ rfl rfl (hcpA _ rfl _ _) ?_))
  go_region_law_o (refine aBe rfl _ _ 37 37 rfl (.slice (some ⟨w.heap.size,(i+1)*2,none⟩) (n - i) (G - (i+1))) (.slice (some ⟨b,i*2,none⟩) (n - i) (c - i)) (by simp [Act.eval,Act.put]) (by simp [Act.eval,Act.put]) (hcpB _ (by rw[hW1]; rfl) 3 (G - (i+1)) (c - i)) ?_)
  go_wp2
  go_ret
  exact hq _ (by rw[hW1]; rfl) rfl ⟨rfl,Nat.le_trans (Nat.le_succ _) (Nat.le_succ _)⟩ rfl
theorem pick3 {α:Type} {l:List α} {y:α} {i j:Nat} (hi:i≤l.length) (hj:j<l.length+1):(l.take i++y::l.drop i)[j]?=if j<i then l[j]? else if j=i then some y else l[j - 1]?:=by
  have ht:(l.take i).length=i:=by rw[List.length_take]; omega
  by_cases h1:j<i
  · rw[if_pos h1,List.getElem?_append_left (by omega),List.getElem?_take,if_pos h1]
  · rw[if_neg h1,List.getElem?_append_right (by omega),ht]
    by_cases h2:j=i
    · rw[if_pos h2,h2,Nat.sub_self]; rfl
    · rw[if_neg h2,show j - i=(j - i - 1)+1 from by omega,List.getElem?_cons_succ,List.getElem?_drop]
      congr 1; omega
theorem aIq (xs:List (List AV)) (y:List AV) (n i:Nat) (hn:n=xs.length) (hi:i≤n) (hbig:(n+1)*24≤140737488355328) :
    DenX Tryz.prog 209 [.own E0 2 0 n,.s (.int .i64 (i:Nat)),.own E1 2 0 1] [(E0,.buf 2 xs),(E1,.buf 2 [y])] (fun r m=>r=.own E0 2 0 (n+1)∧m=[(E0,.buf 2 (xs.take i++y::xs.drop i))]):=by
  intro A w o vals hA hdom hm hr
  obtain ⟨v0,v1,v2,rfl⟩:∃ v0 v1 v2,vals=[v0,v1,v2]:=by
    have:=hr.1
    match vals,this with
    | [a,b,c],_=>exact⟨a,b,c,rfl⟩
  have r0:=hr.2 0 _ v0 rfl rfl
  have r1:=hr.2 1 _ v1 rfl rfl
  have r2:=hr.2 2 _ v2 rfl rfl
  cases r1
  have hl0:=hm.holds E0 (.buf 2 xs) rfl
  have hl1:=hm.holds E1 (.buf 2 [y]) rfl
  rcases hl1 with ⟨hx,_⟩ | ⟨vb,vcur,T2,hvE,hv,hvs,hvk,hvc⟩
  · cases hx
  obtain ⟨vc,rfl⟩:∃ vc,v2=.slice (some ⟨vb,0,none⟩) 1 vc:=by
    cases r2 with
    | own _ _ _ _ b' cap cur' T' hg h1 h2 h3 h4 =>
      have hg':o E1=some (some b'):=hg
      have hvE':o E1=some (some vb):=hvE
      rw[hg'] at hvE'; cases hvE'
      exact⟨cap,by simp⟩
  have hyl:y.length=2∧∀ c∈y,c.leaf=true:=hvk y (by simp)
  have hyc:∀ (q:Nat) (c:AV),y[q]?=some c→∃ v,vcur[q]?=some v∧RelV w ⟨o,A⟩ c v:=fun q c hc=>by
    obtain ⟨v,h1,h2⟩:=hvc 0 y q c rfl hc
    exact⟨v,by simpa using h1,h2⟩
  have honv:∀ (j:Nat) (v:Value),j<2→vcur[j]?=some v→v.oneCell'=true:=fun j v hj hv'=>by
    have hlt:j<y.length:=by rw[hyl.1]; exact hj
    obtain ⟨u,h1,h2⟩:=hyc j y[j] (List.getElem?_eq_getElem hlt)
    rw[hv'] at h1; cases h1
    exact h2.one (AV.one_of_leaf (hyl.2 _ (List.getElem_mem hlt)))
  have hvs2:2≤vcur.size:=by simpa using hvs
  -- what was there,cell by cell
  obtain ⟨x,old,hrun,hxo,hoc,hk⟩:∃ (x:Option Nat) (old:Nat→Option Value),Calls Tryz.prog 209 [v0,.int .i64 (i:Nat),.slice (some ⟨vb,0,none⟩) 1 vc].toArray w (aL2 w x n i old vcur)∧(∀ b,x=some b→o E0=some (some b)) ∧
      (∀ (j:Nat) z (q:Nat) c,xs[j]?=some z→z[q]?=some c→∃ v,old (j*2+q)=some v∧RelV w ⟨o,A⟩ c v)∧(∀ z∈xs,z.length=2∧∀ c∈z,c.leaf=true):=by
    have hempty:n=0→xs=[]:=fun h=>List.eq_nil_of_length_eq_zero (by omega)
    cases r0 with
    | ownn _ _ hg =>
      have hx0:=hempty rfl
      have hi0:i=0:=by omega
      subst hi0; subst hx0
      exact⟨none,fun _=>none,oC none 0 0 vb vc (fun _=>none) none vcur T2 w hv (Nat.le_refl _) (by omega) hbig (fun _=>rfl) [] rfl (fun q hq=>by omega) (fun a ha=>by cases ha) hvs2 honv,(fun b hb=>by cases hb),(fun j z q c h=>by simp at h),by simp⟩
    | own0 _ _ _ b a hg =>
      have hx0:=hempty rfl
      have hi0:i=0:=by omega
      subst hi0; subst hx0
      exact⟨some b,fun _=>none,oC (some ⟨b,a,none⟩) 0 0 vb vc (fun _=>none) (some b) vcur T2 w hv (Nat.le_refl _) (by omega) hbig (fun h=>by cases h) [] rfl (fun q hq=>by omega) (fun a ha j v hj=>by simp at hj) hvs2 honv,(fun b hb=>by cases hb; exact hg),(fun j z q c h=>by simp at h),by simp⟩
    | own _ _ _ _ b cap cur' T' hg h1 h2 h3 h4 =>
      rcases hl0 with ⟨_,hb⟩ | ⟨b0,cur,T,hbE,hh,hcs,hck,hcell⟩
      · have hg':o E0=some (some b):=hg
        have hb':o E0=some none:=hb
        rw[hg'] at hb'; cases hb'
      · have hg':o E0=some (some b):=hg
        have hb':o E0=some (some b0):=hbE
        rw[hg'] at hb'; cases hb'
        obtain ⟨e1,e2⟩:cur=cur'∧T=T':=by rw[hh] at h3; cases h3; exact⟨rfl,rfl⟩
        subst e1; subst e2
        have hsz:cap*2≤cur.size:=by omega
        have hc63:cap≤9223372036854775807:=by simpa [maxLen] using h2
        have hne:vb≠b:=fun e=>by
          have:=hm.inj E0 E1 b hg' (by rw[← e]; exact hvE)
          exact absurd this (by decide)
        have hone:∀ (j:Nat) (v:Value),j<n*2→cur[j]?=some v→v.oneCell'=true:=fun j v hj hv'=>by
          have hj2:j / 2<xs.length:=by rw[← hn]; omega
          have hy':xs[j / 2]?=some xs[j / 2]:=List.getElem?_eq_getElem hj2
          have hl:=hck _ (List.mem_of_getElem? hy')
          have hq:j % 2<(xs[j / 2]).length:=by rw[hl.1]; omega
          obtain ⟨u,hu,hru⟩:=hcell (j / 2) _ (j % 2) _ hy' (List.getElem?_eq_getElem hq)
          rw[show j / 2*2+j % 2=j by omega,hv'] at hu
          cases hu
          exact hru.one (AV.one_of_leaf (hl.2 _ (List.getElem_mem hq)))
        refine⟨some b,fun q=>cur[q]?,?_,(fun b' hb'=>by cases hb'; exact hg'),hcell,hck⟩
        have hv0:(⟨b,0*2,none⟩:Addr)=⟨b,0,none⟩:=by simp
        rw[hv0]
        by_cases hin:i<n
        · by_cases hroom:n+1≤cap
          · refine(aF4 b n cap i vb vc cur vcur T T2 w hh hv hne hin hroom hc63 hsz hvs2 hone honv).mono ?_
            rintro e w' ⟨rfl,cs,rfl,hcsz,hq⟩
            exact aIv rfl rfl ⟨rfl,Nat.le_succ _⟩ rfl hh hroom hc63 hsz hcsz hq
          · exact aIp b n cap i vb vc cur vcur T T2 w hh hv hin h1 (by omega) hbig hsz hvs2 hone honv
        · have hie:i=n:=by omega
          rw[hie]
          by_cases hroom:n+1≤cap
          · exact aAe b n cap vb vc cur vcur T T2 w hh hv hroom hc63 hsz hvs2 honv
          · have htl:(cur.toList.take (n*2)).length=n*2:=by rw[List.length_take,Array.length_toList]; omega
            exact oC (some ⟨b,0,none⟩) n cap vb vc (fun q=>cur[q]?) (some b) vcur T2 w hv h1 (by omega) hbig (fun h=>by cases h) (cur.toList.take (n*2)) htl (fun q hq=>by rw[List.getElem?_take,if_pos hq,Array.getElem?_toList]) (fun a ha j v hj=>by
              cases ha
              have hj2:=(List.getElem?_eq_some_iff.1 hj).1
              rw[htl] at hj2
              rw[List.getElem?_take,if_pos hj2,Array.getElem?_toList] at hj
              rw[Addr.add_lit,Nat.zero_add]
              simp only[World.cell?,hh]
              exact hj) hvs2 honv
  refine hrun.mono ?_
  rintro e w' ⟨b',cap',cs,T,rfl,q1,q2,q3,q4,q5,q6,q7,q8,q9,q10,q11⟩
  have hnx:∀ b,Stable w ⟨o,A⟩ b→x≠some b:=fun b hb hx=>hb.2.1 E0 (hxo b hx)
  have hst:∀ b,Stable w ⟨o,A⟩ b→Stable w' ⟨fun g=>if g=E0 then some (some b') else none,A⟩ b∧w'.heap[b]?=w.heap[b]?:=fun b hb=>by
    refine⟨⟨Nat.lt_of_lt_of_le hb.1 q6,fun g hg=>?_,hb.2.2⟩,q7 b hb.1 (hnx b hb)⟩
    simp only at hg
    split at hg
    · cases hg
      rcases q5 with h | h
      · exact hnx b' hb h
      · have:=hb.1; omega
    · cases hg
  have hmv:∀ (a:AV) (v:Value),a.leaf=true→RelV w ⟨o,A⟩ a v→RelV w' ⟨fun g=>if g=E0 then some (some b') else none,A⟩ a v:=fun a v hlf h=>h.move (ok:=fun _=>false) hst (fun _ _ h _=>by cases h) (AV.clean_of_leaf hlf)
  have hlen:(xs.take i++y::xs.drop i).length=n+1:=by simp only[List.length_append,List.length_take,List.length_cons,List.length_drop]; omega
  have hA':¬ A b':=fun h=>by
    rcases q5 with h1 | h1
    · exact hm.avoid E0 b' (hxo b' h1) h
    · have:=hA b' h; omega
  refine⟨_,.own E0 2 0 (n+1),[(E0,.buf 2 (xs.take i++y::xs.drop i))],fun g=>if g=E0 then some (some b') else none,rfl,⟨rfl,rfl⟩,⟨q8,q9,q10,q6,fun b hb hno=>q7 b hb fun hx=>hno E0 (hxo b hx)⟩,fun g b hg=>?_,⟨fun g hg=>?_,fun g m hg=>?_,fun g g' b h1 h2=>?_,fun g b hg=>?_⟩,rfl,?_⟩
  · try simp only at hg
    split at hg
    · cases hg
      rcases q5 with h | h
      · exact .inl ⟨E0,hxo b' h⟩
      · exact .inr h
    · cases hg
  · show (if g=E0 then some (some b') else none)=none
    rw[dH] at hg
    split at hg
    · cases hg
    · rename_i hne; rw[if_neg (fun e=>hne e.symm)]
  · rw[dH] at hg
    split at hg
    · rename_i e; subst e; cases hg
      refine .inr ⟨b',cs,T,by simp,q3,by rw[hlen]; omega,fun z hz=>?_,fun j z q c hz hc=>?_⟩
      · rcases List.mem_append.1 hz with hz | hz
        · exact hk z (List.mem_of_mem_take hz)
        · rcases List.mem_cons.1 hz with rfl | hz
          · exact hyl
          · exact hk z (List.mem_of_mem_drop hz)
      · have hj:j<n+1:=by rw[← hlen]; exact(List.getElem?_eq_some_iff.1 hz).1
        rw[pick3 (by omega) (by omega)] at hz
        by_cases h1:j<i
        · rw[if_pos h1] at hz
          have hzk:=hk z (List.mem_of_getElem? hz)
          have hq:q<2:=by rw[← hzk.1]; exact(List.getElem?_eq_some_iff.1 hc).1
          obtain ⟨v,hv1,hv2⟩:=hoc j z q c hz hc
          exact⟨v,by rw[q11 _ (by omega),if_pos (by omega)]; exact hv1,hmv _ _ (hzk.2 c (List.mem_of_getElem? hc)) hv2⟩
        · rw[if_neg h1] at hz
          by_cases h2:j=i
          · rw[if_pos h2] at hz
            cases hz
            have hq:q<2:=by rw[← hyl.1]; exact(List.getElem?_eq_some_iff.1 hc).1
            obtain ⟨v,hv1,hv2⟩:=hyc q c hc
            refine⟨v,?_,hmv _ _ (hyl.2 c (List.mem_of_getElem? hc)) hv2⟩
            rw[q11 _ (by omega),if_neg (by omega),if_pos (by omega),show j*2+q - i*2=q from by omega]; exact hv1
          · rw[if_neg h2] at hz
            have hzk:=hk z (List.mem_of_getElem? hz)
            have hq:q<2:=by rw[← hzk.1]; exact(List.getElem?_eq_some_iff.1 hc).1
            obtain ⟨v,hv1,hv2⟩:=hoc (j - 1) z q c hz hc
            refine⟨v,?_,hmv _ _ (hzk.2 c (List.mem_of_getElem? hc)) hv2⟩
            rw[q11 _ (by omega),if_neg (by omega),if_neg (by omega),show j*2+q - 2=(j - 1)*2+q from by omega]; exact hv1
    · cases hg
  · try simp only at h1 h2
    split at h1
    · split at h2
      · rename_i e1 e2; rw[e1,e2]
      · cases h2
    · cases h1
  · try simp only at hg
    split at hg
    · cases hg; exact hA'
    · cases hg
  · have:=RelV.own (w:=w') (p:=⟨fun g=>if g=E0 then some (some b') else none,A⟩) E0 2 0 (n+1) b' cap' cs T (by simp) q1 (by simpa [maxLen] using q2) q3 (by omega)
    simpa using this
end Go.Proofs.YtijnkglkchhomaaGreat
set_option linter.unusedVariables false
namespace Go.Abs
open Go Go.RowKit
variable {P:Program} {α:Type} {enc:α→List AV}
theorem oB {l:List α} {k:Nat} (h:k<l.length):(l.map enc)[((k:Nat):Int).toNat]?=some (enc l[k]):=by
  rw[Int.toNat_natCast,List.getElem?_map,List.getElem?_eq_getElem h]; rfl
theorem hP {l:List α} {z:Int} {k:Nat} (hz:z=(k:Nat)) (h:k<l.length):0≤z∧(l.map enc)[z.toNat]?=some (enc l[k]):=by
  subst hz; exact⟨by omega,oB h⟩
theorem fN (ok:Nat→Bool) (c:AV) (cs:List AV):cleanL ok (c::cs)=(c.clean ok&&cleanL ok cs):=by simp only[cleanL]
theorem bV {mem:Mem} {g k n:Nat} {xs:List (List AV)} (hl:bF mem g=some (.buf k xs)) (hn:n=xs.length):(AV.own g k 0 n).conv mem=.sl k xs:=by
  subst hn
  simp [AV.conv,hl]
theorem aB3 {l:List α} {c k i:Nat} (hi:i=k) (h:k<l.length) (f:Nat):((AM.buf c (l.map enc)).at c i f)=(enc l[k]).drop f:=by
  subst hi
  simp only[AM.at,if_true]
  rw[List.getElem?_map,List.getElem?_eq_getElem h]; rfl
theorem pY {l:List α} {c k i:Nat} (hi:i=k) (h:k<l.length) (hc:(enc l[k]).length=c):Nat.ble c ((AM.buf c (l.map enc)).at c i 0).length=true:=by
  rw[aB3 hi h,List.drop_zero,hc]; exact Nat.ble_eq_true_of_le (Nat.le_refl _)
theorem nK {l:List α} {c k i:Nat} (hi:i=k) (h:k<l.length) (hc:(enc l[k]).length=c):((AM.buf c (l.map enc)).at c i 0).take c=enc l[k]:=by
  rw[aB3 hi h,List.drop_zero,← hc,List.take_length]
theorem hJ {l:List α} {c k i:Nat} (hi:i=k) (h:k<l.length) (f:Nat):((AM.buf c (l.map enc)).at c i f)[0]?=(enc l[k])[f]?:=by
  rw[aB3 hi h,List.getElem?_drop]; simp
theorem gD {l:List α} {c k f i:Nat} {v:α} {rs:List AV} (hi:i=k) (h:k<l.length) (hs:splice (enc l[k]) f rs=enc v) (hf:f+rs.length≤c):(AM.buf c (l.map enc)).store c i f rs=some (.buf c ((l.set k v).map enc)):=by
  subst hi
  have h1:(l.map enc)[i]?=some (enc l[i]):=by rw[List.getElem?_map,List.getElem?_eq_getElem h]; rfl
  simp only[AM.store,h1]
  rw[if_pos (by simpa using hf),hs]
  simp only[List.map_set]
theorem aJk {f k:Nat} {args:List AV} {R:List (List AV)→Prop} (h:DenO P f args k R):Den P f args (fun r=>∃ ys,R ys∧r=.sl k ys):=by
  intro A w vals hA hr
  refine(h A w vals hA hr).mono ?_
  rintro e w' ⟨v,ys,x,rfl,hR,hx,hE,hm,hv⟩
  have hxA:∀ b,x=some b→¬ A b:=fun b hb hAb=>by have h1:=hA b hAb; have h2:=hx b hb; omega
  have hmem:=yV hxA hm
  have hc:=RelV.conv hmem hv
  refine⟨v,_,rfl,⟨ys,hR,rfl⟩,⟨hE.os,hE.tape,hE.output,hE.size,hE.A,fun b hb=>?_,hE.others,fun g x hx=>by cases hx⟩,?_⟩
  · exact⟨⟨(hE.stab b hb).1.1,(fun _ h=>by cases h),(hE.stab b hb).1.2.2⟩,(hE.stab b hb).2⟩
  · rw[bV (g:=E0) rfl rfl] at hc
    exact hc
theorem cX {f k:Nat} {args:List AV} {ys:List (List AV)} (h:DenO P f args k (·=ys)):Den P f args (·=.sl k ys) :=
  (aJk h).mono (by rintro _ ⟨_,rfl,rfl⟩; rfl)
theorem aM0 {a b:List α} {k:Nat} [DecidableEq α] (h1:k<a.length) (h2:k<b.length) (h:¬ a[k]=b[k]):decide (a=b)=false:=by
  rw[decide_eq_false_iff_not]; intro e; subst e; exact h rfl
theorem aP7 {a b:List α} [DecidableEq α] (h:¬ a.length=b.length):decide (a=b)=false:=by
  rw[decide_eq_false_iff_not]; intro e; subst e; exact h rfl
theorem aMz {a b:List α} {k:Nat} (h1:k<a.length) (h2:k<b.length) (h:a.take k=b.take k) (he:a[k]=b[k]):a.take (k+1)=b.take (k+1):=by
  rw[List.take_add_one,List.take_add_one,h,List.getElem?_eq_getElem h1,List.getElem?_eq_getElem h2,he]
theorem aP8 {a b:List α} {k:Nat} [DecidableEq α] (h1:a.length≤k) (h2:b.length≤k) (h:a.take k=b.take k):decide (a=b)=true:=by
  rw[decide_eq_true_iff]
  rwa [List.take_of_length_le h1,List.take_of_length_le h2] at h
def kZ (p:α→Bool) (l:List α):Int:=match l.findIdx? p with | some i=>(i:Nat) | none=>-1
theorem iK {p:α→Bool} {l:List α} {k:Nat} (hk:k<l.length) (h:∀ (j:Nat) (hj:j<l.length),j<k→p l[j]=false) (hp:p l[k]=true):kZ p l=(k:Nat):=by
  have:l.findIdx? p=some k:=by
    rw[List.findIdx?_eq_some_iff_getElem]
    exact⟨hk,hp,fun j hj=>by rw[h j (by omega) hj]; simp⟩
  simp [kZ,this]
theorem lQ {p:α→Bool} {l:List α} (h:∀ (j:Nat) (hj:j<l.length),p l[j]=false):kZ p l=-1:=by
  have:l.findIdx? p=none:=by
    rw[List.findIdx?_eq_none_iff]
    intro x hx
    obtain ⟨j,hj,rfl⟩:=List.getElem_of_mem hx
    exact h j hj
  simp [kZ,this]
theorem dE (p:α→Bool) (l:List α):(kZ p l=-1∧∀ x∈l,p x=false)∨(∃ k:Nat,∃ h:k<l.length,kZ p l=(k:Nat)∧p l[k]=true∧∀ (j:Nat) (hj:j<l.length),j<k→p l[j]=false):=by
  unfold kZ
  cases h:l.findIdx? p with
  | none =>
    left
    rw[List.findIdx?_eq_none_iff] at h
    exact⟨rfl,h⟩
  | some k =>
    right
    rw[List.findIdx?_eq_some_iff_getElem] at h
    obtain ⟨h1,h2,h3⟩:=h
    exact⟨k,h1,rfl,h2,fun j hj hk=>by simpa using h3 j hk⟩
theorem aCk (p:α→Bool) (l:List α):decide (0≤kZ p l)=l.any p:=by
  rcases dE p l with ⟨h1,h2⟩ | ⟨k,h,h1,h2,_⟩
  · rw[h1,Bool.eq_iff_iff]
    simp only[decide_eq_true_eq,List.any_eq_true]
    constructor
    · intro h; omega
    · rintro ⟨x,hx,hp⟩; rw[h2 x hx] at hp; cases hp
  · rw[h1,Bool.eq_iff_iff]
    simp only[decide_eq_true_eq,List.any_eq_true]
    exact⟨fun _=>⟨_,List.getElem_mem h,h2⟩,fun _=>by omega⟩
theorem mS {β:Type} (l:List α) (f:β→α→β) (i:β) (k:Nat) (h:k<l.length):(l.take (k+1)).foldl f i=f ((l.take k).foldl f i) l[k]:=by
  rw[List.take_add_one,List.getElem?_eq_getElem h,List.foldl_append]; rfl
theorem aA9 {β:Type} (l:List α) (f:β→α→β) (i:β) (k:Nat) (h:l.length≤k):(l.take k).foldl f i=l.foldl f i:=by
  rw[List.take_of_length_le h]
theorem aG7 {β:Type} (l:List α) (f:α→β) (k:Nat) (h:k<l.length):(l.take (k+1)).map f=(l.take k).map f++[f l[k]]:=by
  rw[List.take_add_one,List.getElem?_eq_getElem h,List.map_append]; rfl
theorem aEk (l:List α) (k:Nat) (h:k<l.length):(l.take (k+1)).length=(l.take k).length+1:=by simp; omega
theorem kC (l:List α) (p:α→Bool) (k:Nat) (h:k<l.length):(l.take (k+1)).filter p=(l.take k).filter p++(if p l[k]=true then [l[k]] else []):=by
  rw[List.take_add_one,List.getElem?_eq_getElem h,List.filter_append]
  simp only[Option.toList]
  split
  · rename_i hp; simp [hp]
  · rename_i hp; simp [hp]
theorem gY {β:Type} (l:List (List β)) (k:Nat) (h:k<l.length):(l.take (k+1)).flatten=(l.take k).flatten++l[k]:=by
  rw[List.take_add_one,List.getElem?_eq_getElem h,List.flatten_append]; simp
theorem qB {β:Type} (l:List (List β)) (k:Nat):(l.take k).flatten.length≤l.flatten.length:=by
  have:l.flatten=(l.take k).flatten++(l.drop k).flatten:=by rw[← List.flatten_append,List.take_append_drop]
  rw[this,List.length_append]; omega
def iY (q:α→Bool) (l:List α) (j:Nat):List α:=(l.take j).filter q++l.drop ((l.take j).filter q).length
theorem gT (q:α→Bool) (l:List α) (j:Nat):((l.take j).filter q).length≤j:=Nat.le_trans (List.length_filter_le _ _) (by simp; omega)
theorem gG (q:α→Bool) (l:List α) (j:Nat):((l.take j).filter q).length≤l.length:=Nat.le_trans (List.length_filter_le _ _) (by simp; omega)
theorem eF (q:α→Bool) (l:List α) (j:Nat):(iY q l j).length=l.length:=by
  have:=gG q l j
  simp only[iY,List.length_append,List.length_drop]; omega
theorem oM (q:α→Bool) (l:List α) (j i:Nat) (hi:i<l.length) (h:((l.take j).filter q).length≤i):(iY q l j)[i]'(by rw[eF]; exact hi)=l[i]:=by
  simp only[iY]
  rw[List.getElem_append_right h]
  simp only[List.getElem_drop]
  congr 1
  omega
theorem jQ (q:α→Bool) (l:List α) (j:Nat) (hj:j<l.length) (hq:q l[j]=true):(iY q l j).set ((l.take j).filter q).length l[j]=iY q l (j+1):=by
  have h1:=gT q l j
  have h2:(l.take (j+1)).filter q=(l.take j).filter q++[l[j]]:=by rw[kC l q j hj,if_pos hq]
  simp only[iY,h2,List.length_append,List.length_cons,List.length_nil]
  rw[List.set_append_right _ _ (Nat.le_refl _),Nat.sub_self,List.append_assoc]
  congr 1
  rw[List.drop_eq_getElem_cons (show ((l.take j).filter q).length<l.length by omega),List.set_cons_zero]; rfl
theorem jR (q:α→Bool) (l:List α) (j:Nat) (hj:j<l.length) (hq:¬ q l[j]=true):iY q l j=iY q l (j+1):=by
  have h2:(l.take (j+1)).filter q=(l.take j).filter q:=by rw[kC l q j hj,if_neg hq]; simp
  simp only[iY,h2]
theorem kP (q:α→Bool) (l:List α) (k:Nat) (hk:k<l.length) (h:∀ (j:Nat) (hj:j<l.length),j<k→q l[j]=true) (hq:q l[k]=false):iY q l (k+1)=l∧((l.take (k+1)).filter q).length=k:=by
  have h1:(l.take k).filter q=l.take k:=by
    rw[List.filter_eq_self]
    intro x hx
    obtain ⟨j,hj,rfl⟩:=List.getElem_of_mem hx
    simp at hj
    rw[List.getElem_take]
    exact h j (by omega) (by omega)
  have h2:(l.take (k+1)).filter q=l.take k:=by rw[kC l q k hk,if_neg (by rw[hq]; simp),h1]; simp
  refine⟨?_,by rw[h2]; simp; omega⟩
  simp only[iY,h2,List.length_take]
  rw[Nat.min_eq_left (by omega),List.take_append_drop]
theorem mV (q:α→Bool) (l:List α) (j:Nat) (h:l.length≤j):(iY q l j).take (l.filter q).length=l.filter q:=by
  simp only[iY,List.take_of_length_le h]
  rw[List.take_left]
theorem lR (q:α→Bool) (l:List α) (j:Nat) (hj:j<l.length) (hq:q l[j]=true):(((l.take j).filter q).length:Int)+1=(((l.take (j+1)).filter q).length:Nat):=by
  rw[kC l q j hj,if_pos hq]; simp
theorem lS (q:α→Bool) (l:List α) (j:Nat) (hj:j<l.length) (hq:¬ q l[j]=true):(l.take j).filter q=(l.take (j+1)).filter q:=by
  rw[kC l q j hj,if_neg hq]; simp
theorem fL (p:α→Bool) (l:List α) (h:∀ x∈l,p x=false):l.filter (fun x=>!p x)=l:=by
  rw[List.filter_eq_self]; intro x hx; simp [h x hx]
theorem iZ {n:Nat} {sl:List (Nat×AV)} {m:Mem} {d:Nat} {x:Operand} {kd:IntKind} {z:Int} (hx:ev sl x=some (.s (.int kd z))) (hz:0≤z):bnd ⟨n,sl,m⟩ d (some x)=some z.toNat:=by
  simp only[bnd,cO hx]; rw[if_pos hz]
theorem cZ {n:Nat} {sl:List (Nat×AV)} {m:Mem} {l:List α} {g k off c j:Nat} (hl:bF m g=some (.buf k (l.map enc))) (ho:off=0) (hc:c=j) (hj:j≤l.length):cV ⟨n,sl,m⟩ k (.own g k off c)=some ((l.take j).map enc):=by
  subst ho; subst hc
  simp only[cV,hl]
  rw[if_pos (by simpa using hj),List.drop_zero,List.map_take]
theorem bT {n:Nat} {sl sl':List (Nat×AV)} {m m':Mem} (h:nF sl sl') (hm:m=m'):Le ⟨n,sl,m⟩ ⟨n,sl',m'⟩:=hm ▸ kX h
end Go.Abs
set_option linter.unusedVariables false
set_option linter.unusedSimpArgs false
namespace Go.Abs
open Go
def xJ (l:List ByteArray):List (List AV):=l.map fun s=>[.s (.string s)]
theorem fP {l:List ByteArray} {k:Nat} (h:k<l.length):(xJ l)[((k:Nat):Int).toNat]?=some [.s (.string l[k])]:=by
  rw[Int.toNat_natCast]; simp [xJ,h]
theorem iU (l:List ByteArray):(xJ l).length=l.length:=by simp [xJ]
abbrev TS (s:ByteArray):Prop:=s.size≤9223372036854775807
abbrev TL (l:List ByteArray):Prop:=l.length≤9223372036854775807∧∀ s∈l,TS s
def dK (a b:List UInt8):Int:=match a,b with
  | [],[]=>0
  | [],_::_=>-1
  | _::_,[]=>1
  | x::a,y::b=>if x<y then -1 else if x > y then 1 else dK a b
theorem sA (a b:ByteArray) (k:Nat) (ha:k<a.size) (hb:k<b.size) :
    dK (a.data.toList.drop k) (b.data.toList.drop k)=if a[k]<b[k] then -1 else if a[k] > b[k] then 1 else dK (a.data.toList.drop (k+1)) (b.data.toList.drop (k+1)):=by
  rw[List.drop_eq_getElem_cons (l:=a.data.toList) (by simpa using ha),List.drop_eq_getElem_cons (l:=b.data.toList) (by simpa using hb)]
  rfl
theorem lU (a b:ByteArray) (k:Nat) (h1:k≤a.size) (h2:k≤b.size) (h:a.size≤k∨b.size≤k) :
    dK (a.data.toList.drop k) (b.data.toList.drop k)=if a.size<b.size then -1 else if b.size<a.size then 1 else 0:=by
  have la:(a.data.toList.drop k).length=a.size - k:=by simp
  have lb:(b.data.toList.drop k).length=b.size - k:=by simp
  generalize a.data.toList.drop k=x at *
  generalize b.data.toList.drop k=y at *
  cases x <;> cases y <;> simp_all[dK] <;> (repeat' split) <;> first | rfl | omega
def eA (a b:ByteArray):Int:=dK a.data.toList b.data.toList
def eJ (c:UInt8):Bool:=(decide (97≤c.toNat)&&decide (c.toNat≤122))||(decide (48≤c.toNat)&&decide (c.toNat≤57))
def dD (s:ByteArray):Bool:=decide (1≤s.size)&&decide (s.size≤12)&&s.data.toList.all eJ
theorem mN (p:UInt8→Bool) (s:ByteArray) (k:Nat) (h:k<s.size):(s.data.toList.drop k).all p=(p s[k]&&(s.data.toList.drop (k+1)).all p):=by
  rw[List.drop_eq_getElem_cons (l:=s.data.toList) (by simpa using h)]; rfl
theorem aGq (p:UInt8→Bool) (s:ByteArray) (k:Nat) (h:s.size≤k):(s.data.toList.drop k).all p=true:=by
  rw[List.drop_eq_nil_of_le (by simpa using h)]; rfl
theorem kF (c:UInt8):eJ c=true↔(97≤c.toNat∧c.toNat≤122)∨(48≤c.toNat∧c.toNat≤57):=by
  simp [eJ]
theorem nH (a:ByteArray):a.toList=a.data.toList:=ByteArray.toList_eq a
theorem aIf:∀ x y:List UInt8,Op.bytesLess x y=decide (dK x y<0)
  | [],[]=>rfl
  | [],_::_=>rfl
  | _::_,[]=>rfl
  | a::x,b::y=>by
    have ih:=aIf x y
    simp only[Op.bytesLess,dK]
    by_cases h1:a<b
    · simp [h1]
    · by_cases h2:a=b
      · subst h2
        have:¬ a<a:=by rw[UInt8.lt_iff_toNat_lt]; omega
        simp [this,ih]
      · have h3:b<a:=by
          rw[UInt8.lt_iff_toNat_lt] at h1 ⊢
          have:a.toNat≠b.toNat:=fun h=>h2 (UInt8.toNat_inj.1 h)
          omega
        simp [h1,h2,h3]
theorem vN:∀ x y:List UInt8,dK x y=0↔x=y
  | [],[]=>by simp [dK]
  | [],_::_=>by simp [dK]
  | _::_,[]=>by simp [dK]
  | a::x,b::y=>by
    have ih:=vN x y
    simp only[dK]
    by_cases h1:a<b
    · have:a≠b:=fun h=>by subst h; rw[UInt8.lt_iff_toNat_lt] at h1; omega
      simp [h1,this]
    · by_cases h2:b<a
      · have:a≠b:=fun h=>by subst h; exact h1 h2
        simp [h1,h2,this]
      · have:a=b:=UInt8.toNat_inj.1 (by rw[UInt8.lt_iff_toNat_lt] at h1 h2; omega)
        simp [h1,h2,this,ih]
theorem wZ:∀ x y:List UInt8,dK y x=- dK x y
  | [],[]=>rfl
  | [],_::_=>rfl
  | _::_,[]=>rfl
  | a::x,b::y=>by
    have ih:=wZ x y
    simp only[dK]
    by_cases h1:a<b
    · have:¬ b<a:=by rw[UInt8.lt_iff_toNat_lt] at h1 ⊢; omega
      simp [h1,this]
    · by_cases h2:b<a <;> simp [h1,h2,ih]
theorem uY:∀ x y:List UInt8,dK x y=-1∨dK x y=0∨dK x y=1
  | [],[]=>by simp [dK]
  | [],_::_=>by simp [dK]
  | _::_,[]=>by simp [dK]
  | a::x,b::y=>by
    have ih:=uY x y
    simp only[dK]
    split
    · simp
    · split
      · simp
      · exact ih
theorem nG:∀ x y z:List UInt8,dK x y≤0→dK y z≤0→dK x z≤0∧(dK x z=0→dK x y=0∧dK y z=0)
  | [],[],z=>by intro _ h; exact⟨h,fun h'=>⟨rfl,h'⟩⟩
  | [],b::y,[]=>by intro _ h; simp [dK] at h
  | [],b::y,c::z=>by intro _ _; simp [dK]
  | a::x,[],z=>by intro h; simp [dK] at h
  | a::x,b::y,[]=>by intro _ h; simp [dK] at h
  | a::x,b::y,c::z=>by
    have ih:=nG x y z
    simp only[dK]
    by_cases h1:a<b <;> by_cases h2:b<c <;> by_cases h3:a<c <;> by_cases h4:b<a <;> by_cases h5:c<b <;> by_cases h6:c<a <;>
      simp only[UInt8.lt_iff_toNat_lt,gt_iff_lt] at h1 h2 h3 h4 h5 h6 ⊢ <;> (try omega) <;> simp [h1,h2,h3,h4,h5,h6] <;> exact ih
theorem kQ (a b:ByteArray):eA a b=0↔a=b:=by
  unfold eA; rw[vN]
  constructor
  · intro h; cases a; cases b; simp only[ByteArray.mk.injEq] at *; exact Array.toList_inj.1 h
  · rintro rfl; rfl
theorem mW (a b:ByteArray):eA b a=- eA a b:=wZ _ _
theorem pI (a b:ByteArray):eA a b=-1∨eA a b=0∨eA a b=1:=uY _ _
theorem aEb {a b c:ByteArray} (h1:eA a b≤0) (h2:eA b c≤0):eA a c≤0:=(nG _ _ _ h1 h2).1
theorem fV {a b c:ByteArray} (h1:eA a b<0) (h2:eA b c<0):eA a c<0:=by
  have h:=nG a.data.toList b.data.toList c.data.toList (Int.le_of_lt h1) (Int.le_of_lt h2)
  have h3:=pI a c
  unfold eA at *
  omega
theorem uQ {a b c:ByteArray} (h1:eA a b<0) (h2:eA b c≤0):eA a c<0:=by
  have h:=nG a.data.toList b.data.toList c.data.toList (Int.le_of_lt h1) h2
  unfold eA at *
  omega
theorem qN (a b:ByteArray):Op.bytesLess a.toList b.toList=true↔eA a b<0:=by
  rw[nH,nH,aIf]; simp [eA]
theorem nD (a b:ByteArray):a.toList=b.toList↔eA a b=0:=by
  rw[nH,nH,← vN]; rfl
def dX (l:List Int):List (List AV):=l.map fun a=>[.s (.int .i64 a)]
theorem mJ {l:List Int} {k:Nat} (h:k<l.length):(dX l)[((k:Nat):Int).toNat]?=some [.s (.int .i64 l[k])]:=by
  rw[Int.toNat_natCast]; simp [dX,h]
theorem dJ (l:List Int):(dX l).length=l.length:=by simp [dX]
def orI:List Int→Int
  | []=>0
  | a::l=>if a≠0 then a else orI l
theorem aH9 (l:List Int) (k:Nat) (h:k<l.length):orI (l.drop k)=if l[k]≠0 then l[k] else orI (l.drop (k+1)):=by
  rw[List.drop_eq_getElem_cons h]; rfl
theorem orI_end (l:List Int) (k:Nat) (h:l.length≤k):orI (l.drop k)=0:=by rw[List.drop_eq_nil_of_le h]; rfl
theorem aE1 (p:ByteArray→Bool) (l:List ByteArray) (k:Nat) (h:k<l.length):(l.drop k).all p=(p l[k]&&(l.drop (k+1)).all p):=by
  rw[List.drop_eq_getElem_cons h]; rfl
theorem aRx (p:ByteArray→Bool) (l:List ByteArray) (k:Nat) (h:l.length≤k):(l.drop k).all p=true:=by
  rw[List.drop_eq_nil_of_le h]; rfl
def wG (s:ByteArray):List ByteArray→Bool→List ByteArray
  | [],d=>if d then [] else [s]
  | x::r,d=>let c:=eA s x; let d1:=d||decide (c=0); if c<0∧d1=false then s::x::wG s r true else x::wG s r d1
def putL (l:List ByteArray) (s:ByteArray):List ByteArray:=wG s l false
theorem yP (s:ByteArray) (l:List ByteArray) (k:Nat) (d:Bool) (h:l.length≤k):wG s (l.drop k) d=if d then [] else [s]:=by rw[List.drop_eq_nil_of_le h]; rfl
instance:DecidableEq ByteArray:=inferInstance
theorem toList_inj {a b:ByteArray}:a.toList=b.toList↔a=b:=by rw[nD,kQ]
def uE (a b c d:ByteArray):Int:=orI [eA a c,eA b d]
def nJ (a b s:ByteArray):Bool:=decide (a=s)||decide (b=s)
structure PutInv (l:List ByteArray) (s:ByteArray) (k n:Nat) (outv:List (List AV)) (d:Bool):Prop where
  hn:n=outv.length
  hk:k≤l.length
  out:∃ out,outv=xJ out∧putL l s=out++wG s (l.drop k) d∧out.length≤2*k
theorem PutInv.start (l:List ByteArray) (s:ByteArray):PutInv l s 0 0 [] false:=⟨rfl,Nat.zero_le _,[],rfl,rfl,by simp⟩
theorem PutInv.fin_t {l:List ByteArray} {s:ByteArray} {k n:Nat} {outv:List (List AV)} {d:Bool} (h:PutInv l s k n outv d) (hk:l.length≤k) (hd:d=true):outv=xJ (putL l s):=by
  obtain ⟨e1,e2,out,e3,e4,e5⟩:=h
  subst hd
  rw[e4,yP s l k true hk,e3]; simp
theorem PutInv.fin_f {l:List ByteArray} {s:ByteArray} {k n:Nat} {outv:List (List AV)} {d:Bool} (h:PutInv l s k n outv d) (hk:l.length≤k) (hd:d=false):outv++[[.s (.string s)]]=xJ (putL l s):=by
  obtain ⟨e1,e2,out,e3,e4,e5⟩:=h
  subst hd
  rw[e4,yP s l k false hk,e3]; simp [xJ]
theorem PutInv.le {l:List ByteArray} {s:ByteArray} {k n:Nat} {outv:List (List AV)} {d:Bool} (h:PutInv l s k n outv d):n≤2*k:=by
  obtain ⟨e1,e2,out,e3,e4,e5⟩:=h
  rw[e1,e3,iU]; exact e5
end Go.Abs
set_option linter.unusedVariables false
set_option linter.unusedSimpArgs false
namespace Go.Proofs.YtijnkglkchhomaaGreat.Nm
open Go Go.Abs
theorem refCmp_den (a b:ByteArray) (ha:TS a) (hb:TS b) :Den Tryz.prog 49 [.s (.string a),.s (.string b)]  (·=.s (.int .i64 (eA a b))):=by
 unfold eA
 refine aS Tryz.func49 rfl (Nat.le_of_ble_eq_true rfl) (fun w0 A hf=>(aC (fun K1 hK1=>(aB (aE aA 1 rfl (aD (hK1 _ (aC (fun K2 hK2=>(aC (fun K3 hK3=>(aB (aE aA 1 rfl (aD (hK3 _ (aO ?_))))))))))))))))
 refine bS (ι:=Nat) (fun k=>⟨42,[(0,.s (.string a)),(1,.s (.string b)),(5,.s (.int .i64 (k:Nat)))],[]⟩) (fun k=>k≤a.size∧k≤b.size∧dK a.data.toList b.data.toList=dK (a.data.toList.drop k) (b.data.toList.drop k)) (fun k=>a.size - k) 0 ?_ ?_ ?_
 · exact⟨by omega,by omega,rfl⟩
 · exact dN rfl
 ·
  rintro k hC
  obtain ⟨h1,h2,hcmp⟩:=hC
  refine aC (fun K4 hK4=>(aC (fun K5 hK5=>(aB (aE aA 2 rfl (aF rfl (fI rfl Tryz.underlying9) (aE aA 2 rfl (aY rfl rfl rfl (fun hg1=>?_) (fun hg1=>?_)))))))))
  ·
   simp only[bs] at hg1
   refine aF rfl (fA rfl) (aE aA 1 rfl (bK rfl rfl rfl (aF rfl (fI rfl Tryz.underlying9) (aE aA 2 rfl (aD (hK5 _ (aI rfl (fun hc2=>?_) (fun hc2=>?_))))))))
   ·
    simp only[bs] at hc2
    refine aL (hK4 _ (aC (fun K6 hK6=>(aO (aC (fun K7 hK7=>(aC (fun K8 hK8=>(eQ hf bN (by kernel_rfl) rfl (bL aA 2 rfl (bY [(18,_),(19,_)] rfl rfl ⟨⟨rfl,rfl⟩,⟨rfl,rfl⟩,trivial⟩ rfl (oK rfl rfl Tryz.underlying9 (by first | assumption | (refine⟨by omega,?_⟩; first | assumption | exact xK (by omega)))) ?_)))))))))))
    refine bL aA 2 rfl (bY [(21,_),(22,_)] rfl rfl ⟨⟨rfl,rfl⟩,⟨rfl,rfl⟩,trivial⟩ rfl (oK rfl rfl Tryz.underlying9 (by first | assumption | (refine⟨by omega,?_⟩; first | assumption | exact xK (by omega)))) ?_)
    refine bL aA 1 rfl (gE [0,1,5,24] rfl rfl rfl (hK8 _ (aI rfl (fun hc3=>?_) (fun hc3=>?_))))
    ·
     simp only[bs] at hc3
     refine aC (fun K9 hK9=>(aB (aE aA 1 rfl (aD (hK9 _ (aJ ?_))))))
     refine⟨_,rfl,?_⟩
     refine dM ?_
     rw[hcmp,sA a b k (by omega) (by omega),if_pos (by rw[UInt8.lt_iff_toNat_lt]; omega)]
    ·
     simp only[bs] at hc3
     refine aL (hK7 _ (aC (fun K10 hK10=>(eQ hf bN (by kernel_rfl) rfl (bL aA 2 rfl (bY [(25,_),(26,_)] rfl rfl ⟨⟨rfl,rfl⟩,⟨rfl,rfl⟩,trivial⟩ rfl (oK rfl rfl Tryz.underlying9 (by first | assumption | (refine⟨by omega,?_⟩; first | assumption | exact xK (by omega)))) ?_))))))
     refine bL aA 2 rfl (bY [(28,_),(29,_)] rfl rfl ⟨⟨rfl,rfl⟩,⟨rfl,rfl⟩,trivial⟩ rfl (oK rfl rfl Tryz.underlying9 (by first | assumption | (refine⟨by omega,?_⟩; first | assumption | exact xK (by omega)))) ?_)
     refine bL aA 1 rfl (gE [0,1,5,31] rfl rfl rfl (hK10 _ (aI rfl (fun hc4=>?_) (fun hc4=>?_))))
     ·
      simp only[bs] at hc4
      refine aC (fun K11 hK11=>(aB (aE aA 1 rfl (aD (hK11 _ (aJ ?_))))))
      refine⟨_,rfl,?_⟩
      refine dM ?_
      rw[hcmp,sA a b k (by omega) (by omega),if_neg (by rw[UInt8.lt_iff_toNat_lt]; omega),if_pos (by show b[k]<a[k]; rw[UInt8.lt_iff_toNat_lt]; omega)]
     ·
      simp only[bs] at hc4
      refine aL (hK6 _ (aB (aE aA 1 rfl ?_)))
      refine aF rfl (bJ rfl rfl (by omega) (by omega)) ?_
      refine aE aA 1 rfl (aD ?_)
      exact⟨k+1,⟨by omega,by omega,by rw[hcmp,sA a b k (by omega) (by omega),if_neg (by rw[UInt8.lt_iff_toNat_lt]; omega),if_neg (by show ¬ b[k]<a[k]; rw[UInt8.lt_iff_toNat_lt]; omega)]⟩,by omega,dN rfl⟩
   ·
    simp only[bs] at hc2
    refine bA (hK2 _ (aC (fun K12 hK12=>(aC (fun K13 hK13=>(aB (aE aA 1 rfl (aF rfl (fI rfl Tryz.underlying9) (aE aA 1 rfl (aF rfl (fI rfl Tryz.underlying9) (aE aA 1 rfl (aD (hK13 _ (aI rfl (fun hc5=>?_) (fun hc5=>?_)))))))))))))))
    ·
     simp only[bs] at hc5
     refine aC (fun K14 hK14=>(aB (aE aA 1 rfl (aD (hK14 _ (aJ ?_))))))
     refine⟨_,rfl,?_⟩
     refine dM ?_
     rw[hcmp,lU a b k h1 h2 (by omega)]
     (repeat' split) <;> first | rfl | omega
    ·
     simp only[bs] at hc5
     refine aL (hK12 _ (aC (fun K15 hK15=>(aC (fun K16 hK16=>(aB (aE aA 1 rfl (aF rfl (fI rfl Tryz.underlying9) (aE aA 1 rfl (aF rfl (fI rfl Tryz.underlying9) (aE aA 1 rfl (aD (hK16 _ (aI rfl (fun hc6=>?_) (fun hc6=>?_)))))))))))))))
     ·
      simp only[bs] at hc6
      refine aC (fun K17 hK17=>(aB (aE aA 1 rfl (aD (hK17 _ (aJ ?_))))))
      refine⟨_,rfl,?_⟩
      refine dM ?_
      rw[hcmp,lU a b k h1 h2 (by omega)]
      (repeat' split) <;> first | rfl | omega
     ·
      simp only[bs] at hc6
      refine aL (hK15 _ (aC (fun K18 hK18=>(aB (aE aA 1 rfl (aD (hK18 _ (aJ ?_))))))))
      refine⟨_,rfl,?_⟩
      refine dM ?_
      rw[hcmp,lU a b k h1 h2 (by omega)]
      (repeat' split) <;> first | rfl | omega
  ·
   simp only[bs] at hg1
   refine aE aA 4 rfl (aD (hK5 _ (bD rfl (bA (hK2 _ (aC (fun K19 hK19=>(aC (fun K20 hK20=>(aB (aE aA 1 rfl (aF rfl (fI rfl Tryz.underlying9) (aE aA 1 rfl (aF rfl (fI rfl Tryz.underlying9) ?_))))))))))))))
   refine aE aA 1 rfl (aD (hK20 _ (aI rfl (fun hc8=>?_) (fun hc8=>?_))))
   ·
    simp only[bs] at hc8
    refine aC (fun K21 hK21=>(aB (aE aA 1 rfl (aD (hK21 _ (aJ ?_))))))
    refine⟨_,rfl,?_⟩
    refine dM ?_
    rw[hcmp,lU a b k h1 h2 (by omega)]
    (repeat' split) <;> first | rfl | omega
   ·
    simp only[bs] at hc8
    refine aL (hK19 _ (aC (fun K22 hK22=>(aC (fun K23 hK23=>(aB (aE aA 1 rfl (aF rfl (fI rfl Tryz.underlying9) (aE aA 1 rfl (aF rfl (fI rfl Tryz.underlying9) (aE aA 1 rfl (aD (hK23 _ (aI rfl (fun hc9=>?_) (fun hc9=>?_)))))))))))))))
    ·
     simp only[bs] at hc9
     refine aC (fun K24 hK24=>(aB (aE aA 1 rfl (aD (hK24 _ (aJ ?_))))))
     refine⟨_,rfl,?_⟩
     refine dM ?_
     rw[hcmp,lU a b k h1 h2 (by omega)]
     (repeat' split) <;> first | rfl | omega
    ·
     simp only[bs] at hc9
     refine aL (hK22 _ (aC (fun K25 hK25=>(aB (aE aA 1 rfl (aD (hK25 _ (aJ ?_))))))))
     refine⟨_,rfl,?_⟩
     refine dM ?_
     rw[hcmp,lU a b k h1 h2 (by omega)]
     (repeat' split) <;> first | rfl | omega
theorem aMm (c:UInt8) :Den Tryz.prog 196 [.s (.int .u8 (c.toNat:Int))]  (·=.s (.bool (eJ c))):=by
 refine aS Tryz.func196 rfl (Nat.le_of_ble_eq_true rfl) (fun w0 A hf=>(aC (fun K1 hK1=>(aB (aE aA 1 rfl (aD (hK1 _ (aC (fun K2 hK2=>(aB (aE aA 3 rfl (aY rfl rfl rfl (fun hg1=>?_) (fun hg1=>?_)))))))))))))
 ·
  simp only[bs] at hg1
  refine aF rfl (fA rfl) (aE aA 3 rfl (aY rfl rfl rfl (fun hg2=>?_) (fun hg2=>?_)))
  ·
   simp only[bs] at hg2
   refine aF rfl (fA rfl) (aE aA 2 rfl (aY rfl rfl rfl (fun hg3=>?_) (fun hg3=>?_)))
   ·
    simp only[bs] at hg3
    refine aF rfl (fA rfl) (aE aA 4 rfl (aD (hK2 _ (aJ ?_))))
    refine⟨_,rfl,?_⟩
    refine aV ?_
    rw[Bool.eq_iff_iff]
    simp only[eJ,Bool.or_eq_true,Bool.and_eq_true,decide_eq_true_eq,true_iff,Bool.false_eq_true,false_iff]
    omega
   ·
    simp only[bs] at hg3
    refine aE aA 4 rfl (aD (hK2 _ (aJ ?_)))
    refine⟨_,rfl,?_⟩
    refine aV ?_
    rw[Bool.eq_iff_iff]
    simp only[eJ,Bool.or_eq_true,Bool.and_eq_true,decide_eq_true_eq,true_iff,Bool.false_eq_true,false_iff]
    omega
  ·
   simp only[bs] at hg2
   refine aE aA 2 rfl (tT rfl rfl rfl ?_)
   refine tT rfl rfl rfl ?_
   refine aE aA 3 rfl (aD (hK2 _ (aJ ?_)))
   refine⟨_,rfl,?_⟩
   refine aV ?_
   rw[Bool.eq_iff_iff]
   simp only[eJ,Bool.or_eq_true,Bool.and_eq_true,decide_eq_true_eq,true_iff,Bool.false_eq_true,false_iff]
   omega
 ·
  simp only[bs] at hg1
  refine aE aA 6 rfl (aY rfl rfl rfl (fun hg4=>?_) (fun hg4=>?_))
  ·
   simp only[bs] at hg4
   refine aF rfl (fA rfl) (aE aA 4 rfl (aD (hK2 _ (aJ ?_))))
   refine⟨_,rfl,?_⟩
   refine aV ?_
   rw[Bool.eq_iff_iff]
   simp only[eJ,Bool.or_eq_true,Bool.and_eq_true,decide_eq_true_eq,true_iff,Bool.false_eq_true,false_iff]
   omega
  ·
   simp only[bs] at hg4
   refine aE aA 4 rfl (aD (hK2 _ (aJ ?_)))
   refine⟨_,rfl,?_⟩
   refine aV ?_
   rw[Bool.eq_iff_iff]
   simp only[eJ,Bool.or_eq_true,Bool.and_eq_true,decide_eq_true_eq,true_iff,Bool.false_eq_true,false_iff]
   omega
theorem right_den (s:ByteArray) (hs:TS s) :Den Tryz.prog 153 [.s (.string s)]  (·=.s (.bool (dD s))):=by
 refine aS Tryz.func153 rfl (Nat.le_of_ble_eq_true rfl) (fun w0 A hf=>(aC (fun K1 hK1=>(aB (aE aA 1 rfl (aD (hK1 _ (aC (fun K2 hK2=>(aC (fun K3 hK3=>(aB (aE aA 1 rfl (aF rfl (fI rfl Tryz.underlying9) (aE aA 1 rfl (aD ?_))))))))))))))))
 refine hK3 _ (aO (bS (ι:=Nat) (fun k=>⟨23,[(0,.s (.string s)),(5,.s (.int .i64 (s.size:Nat))),(6,.s (.int .i64 (k:Nat)))],[]⟩) (fun k=>k≤s.size∧s.data.toList.all eJ=(s.data.toList.drop k).all eJ) (fun k=>s.size - k) 0 ?_ ?_ ?_))
 · exact⟨by omega,rfl⟩
 · exact dN rfl
 ·
  rintro k hC
  obtain ⟨h1,h2⟩:=hC
  refine aC (fun K4 hK4=>(aB (aE aA 1 rfl (aD (hK4 _ (aC (fun K5 hK5=>(aI rfl (fun hc1=>?_) (fun hc1=>?_)))))))))
  ·
   simp only[bs] at hc1
   refine aL (hK5 _ (aC (fun K6 hK6=>(aO (aC (fun K7 hK7=>(aB (aE aA 2 rfl (aD (hK7 _ (aC (fun K8 hK8=>(aB (aE aA 2 rfl (aF rfl (oK rfl rfl Tryz.underlying9 (by first | assumption | (refine⟨by omega,?_⟩; first | assumption | exact xK (by omega)))) ?_)))))))))))))))
   refine aK hf rfl (aR rfl rfl aKt rfl (aMm _)) (aE aA 1 rfl (aD (hK8 _ (aI rfl (fun hc2=>?_) (fun hc2=>?_)))))
   ·
    simp only[bs] at hc2
    refine aC (fun K9 hK9=>(aB (aE aA 1 rfl (aD (hK9 _ (aJ ?_))))))
    refine⟨_,rfl,?_⟩
    refine aV ?_
    rw[dD,h2,mN eJ s k (by omega)]; simp_all
   ·
    simp only[bs] at hc2
    refine aL (hK6 _ (aB ?_))
    refine aF rfl (bJ rfl rfl (by omega) (by omega)) ?_
    refine aE aA 1 rfl (aD ?_)
    exact⟨k+1,⟨by omega,by rw[h2,mN eJ s k (by omega)]; simp_all⟩,by omega,dN rfl⟩
  ·
   simp only[bs] at hc1
   refine bA (hK2 _ (aC (fun K10 hK10=>(aB (aE aA 1 rfl (aF rfl (fI rfl Tryz.underlying9) (aE aA 2 rfl (aY rfl rfl rfl (fun hg3=>?_) (fun hg3=>?_)))))))))
   ·
    simp only[bs] at hg3
    refine aF rfl (fA rfl) (bK rfl rfl rfl (aF rfl (fI rfl Tryz.underlying9) (aE aA 3 rfl (aD (hK10 _ (aJ ?_))))))
    refine⟨_,rfl,?_⟩
    refine aV ?_
    rw[dD,h2,aGq eJ s k (by omega)]
    rw[Bool.eq_iff_iff]
    simp only[Bool.and_eq_true,decide_eq_true_eq,true_iff,Bool.false_eq_true,false_iff,and_true]
    omega
   ·
    simp only[bs] at hg3
    refine aE aA 4 rfl (aD (hK10 _ (aJ ?_)))
    refine⟨_,rfl,?_⟩
    refine aV ?_
    rw[dD,h2,aGq eJ s k (by omega)]
    rw[Bool.eq_iff_iff]
    simp only[Bool.and_eq_true,decide_eq_true_eq,true_iff,Bool.false_eq_true,false_iff,and_true]
    omega
theorem refRight_den (s:ByteArray) (hs:TS s) :Den Tryz.prog 32 [.s (.string s)]  (·=.s (.bool (dD s))):=by
 refine aS Tryz.func32 rfl (Nat.le_of_ble_eq_true rfl) (fun w0 A hf=>(aC (fun K1 hK1=>(aB (aE aA 1 rfl (aD (hK1 _ (aC (fun K2 hK2=>(aC (fun K3 hK3=>(aB (aE aA 1 rfl (aF rfl (fI rfl Tryz.underlying9) (aE aA 2 rfl (aY rfl rfl rfl (fun hg1=>?_) (fun hg1=>?_)))))))))))))))))
 ·
  simp only[bs] at hg1
  refine aF rfl (fA rfl) (bK rfl rfl rfl (aF rfl (fI rfl Tryz.underlying9) (aE aA 2 rfl (aD (hK3 _ (aI rfl (fun hc2=>?_) (fun hc2=>?_)))))))
  ·
   simp only[bs] at hc2
   refine aC (fun K4 hK4=>(aB (aE aA 1 rfl (aD (hK4 _ (aJ ?_))))))
   refine⟨_,rfl,?_⟩
   refine aV ?_
   rw[eq_comm,dD,Bool.eq_false_iff]
   simp only[ne_eq,Bool.and_eq_true,decide_eq_true_eq]
   omega
  ·
   simp only[bs] at hc2
   refine aL (hK2 _ (aC (fun K5 hK5=>(aC (fun K6 hK6=>(aB (aE aA 1 rfl (aD (hK6 _ (aO (bS (ι:=Nat) (fun k=>⟨38,[(0,.s (.string s)),(3,.s (.int .i64 (k:Nat)))],[]⟩) (fun k=>k≤s.size∧s.data.toList.all eJ=(s.data.toList.drop k).all eJ) (fun k=>s.size - k) 0 ?_ ?_ ?_)))))))))))
   · exact⟨by omega,rfl⟩
   · exact dN rfl
   ·
    rintro k hC
    obtain ⟨h1,h2⟩:=hC
    refine aC (fun K7 hK7=>(aC (fun K8 hK8=>(aB (aE aA 2 rfl (aF rfl (fI rfl Tryz.underlying9) (aE aA 1 rfl (aD (hK8 _ (aI rfl (fun hc3=>?_) (fun hc3=>?_)))))))))))
    ·
     simp only[bs] at hc3
     refine aL (hK7 _ (aC (fun K9 hK9=>(aO (aC (fun K10 hK10=>(aB (aE aA 2 rfl (aF rfl (oK rfl rfl Tryz.underlying9 (by first | assumption | (refine⟨by omega,?_⟩; first | assumption | exact xK (by omega)))) ?_)))))))))
     refine aE aA 1 rfl (aD (hK10 _ (aC (fun K11 hK11=>(aB (aE aA 3 rfl (aY rfl rfl rfl (fun hg4=>?_) (fun hg4=>?_))))))))
     ·
      simp only[bs] at hg4
      refine aF rfl (fA rfl) (aE aA 4 rfl (aY rfl rfl rfl (fun hg5=>?_) (fun hg5=>?_)))
      ·
       simp only[bs] at hg5
       refine aF rfl (fA rfl) (aE aA 2 rfl (aY rfl rfl rfl (fun hg6=>?_) (fun hg6=>?_)))
       ·
        simp only[bs] at hg6
        refine aF rfl (fA rfl) (aE aA 4 rfl (aD (hK11 _ (aI rfl (fun hc7=>?_) (fun hc7=>?_)))))
        ·
         simp only[bs] at hc7
         refine aC (fun K12 hK12=>(aB (aE aA 1 rfl (aD (hK12 _ (aJ ?_))))))
         refine⟨_,rfl,?_⟩
         refine aV ?_
         rw[dD,h2,mN eJ s k (by omega),show eJ s[k]=false from Bool.eq_false_iff.2 (fun h=>by have:=(kF _).1 h; omega)]; simp
        ·
         simp only[bs] at hc7
         refine aL (hK9 _ (aB (aE aA 1 rfl ?_)))
         refine aF rfl (bJ rfl rfl (by omega) (by omega)) ?_
         refine aE aA 1 rfl (aD ?_)
         exact⟨k+1,⟨by omega,by rw[h2,mN eJ s k (by omega),(kF _).2 (by omega)]; rfl⟩,by omega,dN rfl⟩
       ·
        simp only[bs] at hg6
        refine aE aA 4 rfl (aD (hK11 _ (cS rfl (aC (fun K13 hK13=>(aB (aE aA 1 rfl (aD (hK13 _ (aJ ?_))))))))))
        refine⟨_,rfl,?_⟩
        refine aV ?_
        rw[dD,h2,mN eJ s k (by omega),show eJ s[k]=false from Bool.eq_false_iff.2 (fun h=>by have:=(kF _).1 h; omega)]; simp
      ·
       simp only[bs] at hg5
       refine aE aA 2 rfl (tT rfl rfl rfl ?_)
       refine tT rfl rfl rfl ?_
       refine aE aA 3 rfl (aD (hK11 _ (bD rfl (aL (hK9 _ (aB (aE aA 1 rfl ?_)))))))
       refine aF rfl (bJ rfl rfl (by omega) (by omega)) ?_
       refine aE aA 1 rfl (aD ?_)
       exact⟨k+1,⟨by omega,by rw[h2,mN eJ s k (by omega),(kF _).2 (by omega)]; rfl⟩,by omega,dN rfl⟩
     ·
      simp only[bs] at hg4
      refine aE aA 7 rfl (aY rfl rfl rfl (fun hg10=>?_) (fun hg10=>?_))
      ·
       simp only[bs] at hg10
       refine aF rfl (fA rfl) (aE aA 4 rfl (aD (hK11 _ (aI rfl (fun hc11=>?_) (fun hc11=>?_)))))
       ·
        simp only[bs] at hc11
        refine aC (fun K14 hK14=>(aB (aE aA 1 rfl (aD (hK14 _ (aJ ?_))))))
        refine⟨_,rfl,?_⟩
        refine aV ?_
        rw[dD,h2,mN eJ s k (by omega),show eJ s[k]=false from Bool.eq_false_iff.2 (fun h=>by have:=(kF _).1 h; omega)]; simp
       ·
        simp only[bs] at hc11
        refine aL (hK9 _ (aB (aE aA 1 rfl ?_)))
        refine aF rfl (bJ rfl rfl (by omega) (by omega)) ?_
        refine aE aA 1 rfl (aD ?_)
        exact⟨k+1,⟨by omega,by rw[h2,mN eJ s k (by omega),(kF _).2 (by omega)]; rfl⟩,by omega,dN rfl⟩
      ·
       simp only[bs] at hg10
       refine aE aA 4 rfl (aD (hK11 _ (cS rfl (aC (fun K15 hK15=>(aB (aE aA 1 rfl (aD (hK15 _ (aJ ?_))))))))))
       refine⟨_,rfl,?_⟩
       refine aV ?_
       rw[dD,h2,mN eJ s k (by omega),show eJ s[k]=false from Bool.eq_false_iff.2 (fun h=>by have:=(kF _).1 h; omega)]; simp
    ·
     simp only[bs] at hc3
     refine bA (hK5 _ (aC (fun K16 hK16=>(aB (aE aA 1 rfl (aD (hK16 _ (aJ ?_))))))))
     refine⟨_,rfl,?_⟩
     refine aV ?_
     rw[dD,h2,aGq eJ s k (by omega),eq_comm]
     simp only[Bool.and_eq_true,decide_eq_true_eq,and_true]
     omega
 ·
  simp only[bs] at hg1
  refine aE aA 3 rfl (aD (hK3 _ (cS rfl (aC (fun K17 hK17=>(aB (aE aA 1 rfl (aD (hK17 _ (aJ ?_))))))))))
  refine⟨_,rfl,?_⟩
  refine aV ?_
  rw[eq_comm,dD,Bool.eq_false_iff]
  simp only[ne_eq,Bool.and_eq_true,decide_eq_true_eq]
  omega
end Go.Proofs.YtijnkglkchhomaaGreat.Nm
set_option linter.unusedVariables false
set_option linter.unusedSimpArgs false
namespace Go.Proofs.YtijnkglkchhomaaGreat.Nm
open Go Go.Abs
theorem rC (s:ByteArray) :Den Tryz.prog 215 [.s (.string s)]  (·=.s (.bool false)):=by
 refine aS Tryz.func215 rfl (Nat.le_of_ble_eq_true rfl) (fun w0 A hf=>(aC (fun K1 hK1=>(aB (aE aA 1 rfl (aD (hK1 _ (aC (fun K2 hK2=>(aB (aE aA 4 rfl (aD (hK2 _ (aJ ?_))))))))))))))
 refine⟨_,rfl,?_⟩
 refine aV ?_
 simp
theorem hZ (a b:ByteArray) :Den Tryz.prog 174 [.s (.string a),.s (.string b)]  (·=.s (.int .i64 (eA a b))):=by
 refine aS Tryz.func174 rfl (Nat.le_of_ble_eq_true rfl) (fun w0 A hf=>(aC (fun K1 hK1=>(aB (aE aA 1 rfl (aD (hK1 _ (aC (fun K2 hK2=>(aB (aE aA 1 rfl (aK hf rfl (aR rfl rfl zF rfl (rC _)) (aE aA 1 rfl (aD (hK2 _ ?_)))))))))))))))
 refine aC (fun K3 hK3=>(aB (aE aA 1 rfl (aK hf rfl (aR rfl rfl zF rfl (rC _)) (aE aA 1 rfl (aD (hK3 _ (aC (fun K4 hK4=>(aC (fun K5 hK5=>(aB (aE aA 1 rfl (aD (hK5 _ ?_)))))))))))))))
 refine bD rfl (aL (hK4 _ (aC (fun K6 hK6=>(aC (fun K7 hK7=>(aB (aE aA 1 rfl (aD (hK7 _ (bD rfl (aL (hK6 _ (aC (fun K8 hK8=>?_)))))))))))))))
 refine aC (fun K9 hK9=>(aB (aE aA 3 rfl (aD (hK9 _ (aI rfl (fun hc3=>?_) (fun hc3=>?_)))))))
 ·
  refine aC (fun K10 hK10=>(aB (aE aA 1 rfl (aD (hK10 _ (aJ ?_))))))
  refine⟨_,rfl,?_⟩
  refine dM ?_
  have h1:=qN a b
  have h2:=nD a b
  have h3:=pI a b
  have:=h1.1 (by assumption)
  omega
 ·
  refine aL (hK8 _ (aC (fun K11 hK11=>(aC (fun K12 hK12=>(aB (aE aA 3 rfl (aD (hK12 _ (aI rfl (fun hc4=>?_) (fun hc4=>?_)))))))))))
  ·
   simp only[bs,iU,dJ,List.length_cons,List.length_nil] at hc4
   refine aC (fun K13 hK13=>(aB (aE aA 1 rfl (aD (hK13 _ (aJ ?_))))))
   refine⟨_,rfl,?_⟩
   refine dM ?_
   have h1:=qN a b
   have h2:=nD a b
   have h3:=pI a b
   have h4:¬ eA a b<0:=fun h=>by have e:=h1.2 h; simp_all
   have h5:¬ eA a b=0:=fun h=>by have e:=h2.2 h; simp_all
   omega
  ·
   simp only[bs,iU,dJ,List.length_cons,List.length_nil] at hc4
   refine aL (hK11 _ (aC (fun K14 hK14=>(aB (aE aA 1 rfl (aD (hK14 _ (aJ ?_))))))))
   refine⟨_,rfl,?_⟩
   refine dM ?_
   have h1:=qN a b
   have h2:=nD a b
   have h3:=pI a b
   have h4:¬ eA a b<0:=fun h=>by have e:=h1.2 h; simp_all
   have h5:eA a b=0:=h2.1 (by simp_all)
   omega
theorem cmp_den (a b:ByteArray) :Den Tryz.prog 113 [.s (.string a),.s (.string b)]  (·=.s (.int .i64 (eA a b))):=by
 refine aS Tryz.func113 rfl (Nat.le_of_ble_eq_true rfl) (fun w0 A hf=>(aC (fun K1 hK1=>(aB (aE aA 1 rfl (aD (hK1 _ (aC (fun K2 hK2=>(aB (aE aA 2 rfl (aK hf rfl (aR rfl rfl aK6 rfl (hZ _ _)) (aE aA 1 rfl (aD (hK2 _ ?_)))))))))))))))
 refine aJ ?_
 refine⟨_,rfl,?_⟩
 rfl
theorem aSn (s:ByteArray) (hs:TS s) :Den Tryz.prog 198 [.s (.string s)]  (·=.s (.bool (!dD s))):=by
 refine aS Tryz.func198 rfl (Nat.le_of_ble_eq_true rfl) (fun w0 A hf=>(aC (fun K1 hK1=>(aB (aE aA 1 rfl (aD (hK1 _ (aC (fun K2 hK2=>(aB (aE aA 1 rfl (aK hf rfl (aR rfl rfl nT rfl (right_den _ (by first | assumption | (apply hl; simp)))) ?_))))))))))))
 refine aE aA 2 rfl (aD (hK2 _ (aJ ?_)))
 refine⟨_,rfl,?_⟩
 rfl
theorem aF6 (l:List ByteArray) (hl:TL l) :Den Tryz.prog 229 [.sl 1 (xJ l),.fn 198 []]  (fun r=>∃ z:Int,r=.s (.int .i64 z)∧decide (0≤z)=!(l.all dD)):=by
 obtain ⟨hl1,hl2⟩:=hl
 refine aS Tryz.func229 rfl (Nat.le_of_ble_eq_true rfl) (fun w0 A hf=>(aC (fun K1 hK1=>(aB (aE aA 1 rfl (aD (hK1 _ (aC (fun K2 hK2=>(aC (fun K3 hK3=>(aB (aE aA 3 rfl (aD (hK3 _ (aO ?_))))))))))))))))
 refine bS (ι:=Nat) (fun k=>⟨19,[(0,.sl 1 (xJ l)),(1,.fn 198 []),(7,.s (.int .i64 ((xJ l).length:Nat))),(8,.s (.int .i64 (k:Nat)))],[]⟩) (fun k=>k≤l.length∧l.all dD=(l.drop k).all dD) (fun k=>l.length - k) 0 ?_ ?_ ?_
 · exact⟨by omega,rfl⟩
 · exact dN rfl
 ·
  rintro k hC
  obtain ⟨h1,h2⟩:=hC
  refine aC (fun K4 hK4=>(aB (aE aA 1 rfl (aD (hK4 _ (aC (fun K5 hK5=>(aI rfl (fun hc1=>?_) (fun hc1=>?_)))))))))
  ·
   simp only[bs,iU,dJ,List.length_cons,List.length_nil] at hc1
   refine aL (hK5 _ (aC (fun K6 hK6=>(aO (aC (fun K7 hK7=>(aB (aE aA 2 rfl (aD (hK7 _ (aC (fun K8 hK8=>(aB (aE aA 3 rfl ?_))))))))))))))
   refine aF rfl (aW rfl rfl aQ0 cJ (by first | assumption | (refine⟨by omega,?_⟩; first | assumption | exact fP (by omega) | exact fP (by simp only[List.length_cons] at *; omega) | exact mJ (by omega) | exact oB (by omega) | exact mH (by omega)) | exact⟨by decide,rfl⟩)) ?_
   refine aF rfl (aF1 rfl aGr rfl) ?_
   refine aK hf rfl (aR rfl rfl aKr rfl (aSn _ (hl2 _ (List.getElem_mem _)))) (aD (hK8 _ (aI rfl (fun hc2=>?_) (fun hc2=>?_))))
   ·
    simp only[bs,iU,dJ,List.length_cons,List.length_nil] at hc2
    refine aC (fun K9 hK9=>(aB (aE aA 2 rfl (aD (hK9 _ (aJ ?_))))))
    refine⟨_,rfl,?_⟩
    refine⟨_,rfl,?_⟩
    rw[h2,aE1 dD l k (by omega)]
    simp_all
   ·
    simp only[bs,iU,dJ,List.length_cons,List.length_nil] at hc2
    refine aL (hK6 _ (aB ?_))
    refine aF rfl (bJ rfl rfl (by omega) (by omega)) ?_
    refine aE aA 1 rfl (aD ?_)
    exact⟨k+1,⟨by omega,by rw[h2,aE1 dD l k (by omega)]; simp_all⟩,by omega,dN rfl⟩
  ·
   simp only[bs,iU,dJ,List.length_cons,List.length_nil] at hc1
   refine bA (hK2 _ (aC (fun K10 hK10=>(aB (aE aA 1 rfl (aD (hK10 _ (aJ ?_))))))))
   refine⟨_,rfl,?_⟩
   refine⟨_,rfl,?_⟩
   rw[h2,aRx dD l k (by omega)]
   rfl
theorem aAk (l:List ByteArray) (hl:TL l) :Den Tryz.prog 197 [.sl 1 (xJ l),.fn 198 []]  (·=.s (.bool (!(l.all dD)))):=by
 refine aS Tryz.func197 rfl (Nat.le_of_ble_eq_true rfl) (fun w0 A hf=>(aC (fun K1 hK1=>(aB (aE aA 1 rfl (aD (hK1 _ (aC (fun K2 hK2=>(aB (aE aA 2 rfl (y_call hf rfl rfl rfl aKd rfl (aF6 _ (by assumption)) ?_))))))))))))
 rintro _ ⟨z,rfl,hz⟩
 refine aE aA 2 rfl (aD (hK2 _ (aJ ?_)))
 refine⟨_,rfl,?_⟩
 refine aV ?_
 rw[← hz]
theorem all_den (l:List ByteArray) (hl:TL l) :Den Tryz.prog 154 [.sl 1 (xJ l)]  (·=.s (.bool (l.all dD))):=by
 refine aS Tryz.func154 rfl (Nat.le_of_ble_eq_true rfl) (fun w0 A hf=>(aC (fun K1 hK1=>(aB (aE aA 1 rfl (aD (hK1 _ (aC (fun K2 hK2=>(aB (aE aA 1 rfl (aK hf rfl (aR rfl rfl aKs rfl (aAk _ (by assumption))) (aE aA 2 rfl (aD (hK2 _ ?_)))))))))))))))
 refine aJ ?_
 refine⟨_,rfl,?_⟩
 refine aV ?_
 simp
theorem or_den (l:List Int) (hl:l.length≤9223372036854775807) :Den Tryz.prog 176 [.sl 1 (dX l)]  (·=.s (.int .i64 (orI l))):=by
 refine aS Tryz.func176 rfl (Nat.le_of_ble_eq_true rfl) (fun w0 A hf=>(aC (fun K1 hK1=>(aB (aE aA 1 rfl (aD (hK1 _ (aC (fun K2 hK2=>(aB (aE aA 1 rfl (aD (hK2 _ (aC (fun K3 hK3=>(aC (fun K4 hK4=>?_)))))))))))))))))
 refine aB (aE aA 3 rfl (aD (hK4 _ (aO (bS (ι:=Nat) (fun k=>⟨18,[(3,.s (.int .i64 0)),(6,.sl 1 (dX l)),(7,.s (.int .i64 ((dX l).length:Nat))),(8,.s (.int .i64 (k:Nat)))],[]⟩) (fun k=>k≤l.length∧orI l=orI (l.drop k)) (fun k=>l.length - k) 0 ?_ ?_ ?_)))))
 · exact⟨by omega,rfl⟩
 · exact dN rfl
 ·
  rintro k hC
  obtain ⟨h1,h2⟩:=hC
  refine aC (fun K5 hK5=>(aB (aE aA 1 rfl (aD (hK5 _ (aC (fun K6 hK6=>(aI rfl (fun hc1=>?_) (fun hc1=>?_)))))))))
  ·
   simp only[bs,iU,dJ,List.length_cons,List.length_nil] at hc1
   refine aL (hK6 _ (aC (fun K7 hK7=>(aO (aC (fun K8 hK8=>(aB ?_)))))))
   refine aF rfl (aW rfl rfl jT cB (by first | assumption | (refine⟨by omega,?_⟩; first | assumption | exact fP (by omega) | exact fP (by simp only[List.length_cons] at *; omega) | exact mJ (by omega) | exact oB (by omega) | exact mH (by omega)) | exact⟨by decide,rfl⟩)) ?_
   refine aF rfl (aF1 rfl kS rfl) ?_
   refine aE aA 1 rfl (aD (hK8 _ (aC (fun K9 hK9=>(aB (aE aA 3 rfl (aD (hK9 _ (aI rfl (fun hc2=>?_) (fun hc2=>?_))))))))))
   ·
    simp only[bs,iU,dJ,List.length_cons,List.length_nil] at hc2
    refine aC (fun K10 hK10=>(aB (aE aA 2 rfl (aD (hK10 _ (aJ ?_))))))
    refine⟨_,rfl,?_⟩
    refine dM ?_
    rw[h2,aH9 l k (by omega),if_pos (by assumption)]
   ·
    simp only[bs,iU,dJ,List.length_cons,List.length_nil] at hc2
    refine aL (hK7 _ (aB ?_))
    refine aF rfl (bJ rfl rfl (by omega) (by omega)) ?_
    refine aE aA 1 rfl (aD ?_)
    exact⟨k+1,⟨by omega,by rw[h2,aH9 l k (by omega),if_neg (by simp_all)]⟩,by omega,dN rfl⟩
  ·
   simp only[bs,iU,dJ,List.length_cons,List.length_nil] at hc1
   refine bA (hK3 _ (aC (fun K11 hK11=>(aB (aE aA 2 rfl (aD (hK11 _ (aJ ?_))))))))
   refine⟨_,rfl,?_⟩
   refine dM ?_
   rw[h2,orI_end l k (by omega)]
end Go.Proofs.YtijnkglkchhomaaGreat.Nm
set_option linter.unusedVariables false
set_option linter.unusedSimpArgs false
namespace Go.Abs
open Go Go.RowKit
variable {P:Program} {n:Nat} {sl:List (Nat×AV)} {m:Mem} {d ty:Nat} {ps:String} {af:Array Edge} {gd:Option (Nat×Bool)}
theorem nY {a b:TypeId} {x:Operand} {k k':IntKind} {z z':Int} {D:TypeDesc} (hx:ev sl x=some (.s (.int k z))) (ha:P.underlying a=some D) (hb:P.underlying b=some (.int k')) (hz:k'.wrap z=z') :
    cE P ⟨some d,.convert a b x,ty,ps,af,gd⟩ ⟨n,sl,m⟩ (.s (.int k' z')):=by
  intro act w p hs _
  refine⟨.int k' z',?_,.s _⟩
  have e1:=nQ hs (cO (n:=n) (m:=m) hx)
  simp [execOp,e1,Go.convert,run_underlying ha,run_underlying hb,Conv.intToInt,hz]
theorem xT {t yt:TypeId} {x:Operand} {k:IntKind} {z z':Int} (hx:ev sl x=some (.s (.int k z))) (hz:z.fdiv 2=z') (h64:1<k.bits):cE P ⟨some d,.binOp .shr t x (.const (.int .u64 1)) yt,ty,ps,af,gd⟩ ⟨n,sl,m⟩ (.s (.int k z')):=by
  intro act w p hs _
  refine⟨.int k z',?_,.s _⟩
  have e1:=nQ hs (cO (n:=n) (m:=m) hx)
  have e2:act.eval (.const (.int .u64 1))=.int .u64 1:=rfl
  have e3:min (1:Int).toNat k.bits=1:=by show min 1 k.bits=1; omega
  have e4:(binOp .shr t (.int k z) (.int .u64 1)).run P w=.ok (.int k z') w:=by
    show (Op.shift .shr k z .u64 1).run P w=_
    unfold Op.shift
    rw[if_neg (by omega)]
    simp only[e3]
    show Result.ok (Value.int k (z.fdiv (2 ^ 1))) w=_
    rw[show (2:Int) ^ 1=2 from rfl,hz]
  simp only[execOp,e1,e2]
  rw[Sem.run_bind]
  have e5:(eqGuard .shr t x (.const (.int .u64 1)) (.int k z) (.int .u64 1)).run P w=.ok () w:=by simp [eqGuard]
  simp [e5,e4]
theorem yB {a b:Int} (ha:0≤a) (hb:a≤9223372036854775807) (e:b=a / 2):IntKind.u64.wrap a=a∧a.fdiv 2=b∧IntKind.i64.wrap b=b:=by
  subst e
  refine⟨?_,?_,?_⟩
  · unfold IntKind.wrap; simp [IntKind.signed,IntKind.bits]; omega
  · rw[Int.fdiv_eq_ediv_of_nonneg a (by omega)]
  · exact wrap_i64 (by omega) (by omega)
end Go.Abs
namespace Go.Abs
open Go Go.RowKit
variable {P:Program} {n:Nat} {sl:List (Nat×AV)} {m:Mem} {d ty:Nat} {ps:String} {af:Array Edge} {gd:Option (Nat×Bool)}
theorem aOk {t yt:TypeId} {x y:Operand} {a b r:Int} (hx:ev sl x=some (.s (.int .i64 a))) (hy:ev sl y=some (.s (.int .i64 b))) (hr:a*b=r) (h1:-9223372036854775808≤r) (h2:r≤9223372036854775807):cE P ⟨some d,.binOp .mul t x y yt,ty,ps,af,gd⟩ ⟨n,sl,m⟩ (.s (.int .i64 r)):=by
  subst hr
  exact dB hx hy (by simp [tH,yE,wrap_i64 h1 h2])
end Go.Abs
set_option linter.unusedVariables false
set_option linter.unusedSimpArgs false
namespace Go.Abs
variable {α β:Type}
structure Tri (c:α→α→Int):Prop where
  rng:∀ x y,c x y=-1∨c x y=0∨c x y=1
  swap:∀ x y,c y x=- c x y
  tr:∀ x y z,c x y≤0→c y z≤0→c x z≤0
theorem Tri.self {c:α→α→Int} (h:Tri c) (x:α):c x x=0:=by have:=h.swap x x; omega
theorem Tri.lt_tr {c:α→α→Int} (h:Tri c) {x y z:α} (h1:c x y<0) (h2:c y z<0):c x z<0:=by
  have h3:=h.tr x y z (by omega) (by omega)
  rcases Int.lt_or_eq_of_le h3 with e | e
  · exact e
  · exfalso
    have:=h.tr y z x (by omega) (by have:=h.swap x z; omega)
    have:=h.swap x y
    omega
theorem Tri.lt_le {c:α→α→Int} (h:Tri c) {x y z:α} (h1:c x y<0) (h2:c y z≤0):c x z<0:=by
  have h3:=h.tr x y z (by omega) h2
  rcases Int.lt_or_eq_of_le h3 with e | e
  · exact e
  · exfalso
    have:=h.tr y z x h2 (by have:=h.swap x z; omega)
    have:=h.swap x y
    omega
theorem Tri.le_lt {c:α→α→Int} (h:Tri c) {x y z:α} (h1:c x y≤0) (h2:c y z<0):c x z<0:=by
  have h3:=h.tr x y z h1 (by omega)
  rcases Int.lt_or_eq_of_le h3 with e | e
  · exact e
  · exfalso
    have:=h.tr z x y (by have:=h.swap x z; omega) h1
    have:=h.swap y z
    omega
theorem Tri.comap {c:α→α→Int} (h:Tri c) (f:β→α):Tri (fun x y=>c (f x) (f y)) :=
  ⟨fun _ _=>h.rng _ _,fun _ _=>h.swap _ _,fun _ _ _=>h.tr _ _ _⟩
def tD (c d:α→α→Int) (x y:α):Int:=if c x y≠0 then c x y else d x y
theorem Tri.lex {c d:α→α→Int} (hc:Tri c) (hd:Tri d):Tri (tD c d):=by
  refine⟨fun x y=>?_,fun x y=>?_,fun x y z=>?_⟩
  · unfold tD; split
    · exact hc.rng x y
    · exact hd.rng x y
  · have h1:=hc.swap x y; have h2:=hd.swap x y
    unfold tD
    split <;> split <;> omega
  · intro h1 h2
    unfold tD at *
    have:=hc.tr x y z
    have:=@Tri.lt_le _ _ hc x y z
    have:=@Tri.le_lt _ _ hc x y z
    have:=hd.tr x y z
    split at h1 <;> split at h2 <;> split <;> omega
theorem rB {c d:α→α→Int} {x y:α}:tD c d x y=0↔c x y=0∧d x y=0:=by
  unfold tD; split <;> omega
def aDr (ok:α→Bool) (nx:α→α→Bool):Option α→List α→Bool
  | _,[]=>true
  | none,x::r=>ok x&&aDr ok nx (some x) r
  | some y,x::r=>(ok x&&nx y x)&&aDr ok nx (some x) r
theorem qU {ok:α→Bool} {nx:α→α→Bool} (R:α→α→Prop) (h1:∀ x y,nx x y=true↔R x y) (h2:∀ x y z,ok y=true→R x y→R y z→R x z) :
    ∀ (l:List α) (p:Option α),aDr ok nx p l=true↔((∀ x∈l,ok x=true)∧l.Pairwise R∧∀ y,p=some y→∀ x∈l,R y x)
  | [],p=>by cases p <;> simp [aDr]
  | x::r,none=>by
    simp only[aDr,Bool.and_eq_true]
    rw[qU R h1 h2 r (some x)]
    simp only[List.mem_cons,forall_eq_or_imp,List.pairwise_cons,Option.some.injEq,forall_eq',reduceCtorEq,false_implies,implies_true,and_true]
    constructor
    · rintro ⟨a,b,c,d⟩; exact⟨⟨a,b⟩,d,c⟩
    · rintro ⟨⟨a,b⟩,d,c⟩; exact⟨a,b,c,d⟩
  | x::r,some y=>by
    simp only[aDr,Bool.and_eq_true]
    rw[qU R h1 h2 r (some x),h1]
    simp only[List.mem_cons,forall_eq_or_imp,List.pairwise_cons,Option.some.injEq,forall_eq']
    constructor
    · rintro ⟨⟨a,e⟩,b,c,d⟩; exact⟨⟨a,b⟩,⟨d,c⟩,e,fun z hz=>h2 y x z a e (d z hz)⟩
    · rintro ⟨⟨a,b⟩,⟨d,c⟩,e,f⟩; exact⟨⟨a,e⟩,b,c,d⟩
end Go.Abs
namespace Go.Abs
variable {α:Type} {enc:α→List AV}
theorem aMx {q:α→Bool} {l:List α} {k:Nat} (hk:k<l.length) (h:q l[k]=true):(l.take (k+1)).filter q=(l.take k).filter q++[l[k]]:=by
  rw[kC l q k hk,if_pos h]
theorem aGe {q:α→Bool} {l:List α} {k:Nat} (hk:k<l.length) (h:q l[k]=false):(l.take (k+1)).filter q=(l.take k).filter q:=by
  rw[kC l q k hk,if_neg (by simp [h]),List.append_nil]
theorem iW {l:List α} {k:Nat} (h:k≤l.length):((l.map enc).take ((k:Nat):Int).toNat).drop 0=(l.take k).map enc:=by
  simp [List.map_take]
theorem fT {l:List α} {k:Nat} (h:k≤l.length):((l.map enc).take (l.map enc).length).drop ((k:Nat):Int).toNat=(l.drop k).map enc:=by
  rw[Int.toNat_natCast,List.map_drop,List.take_of_length_le (Nat.le_refl _)]
end Go.Abs
