import Derived.WalkKit
import Derived.WalkSpells
import Derived.WalkLawsBesides
import Derived.Deep.LoopGhost
import Derived.ChangeKeysEq
import Derived.Still
import Derived.Lib.AppendZeros
import Derived.Laws.StructEq
import Derived.OpenShut
import Derived.Scope
import Derived.Shelf.SlSortCmp.Kit1
import Derived.Shelf.SlSortCmp.InsertionK
import Derived.Lib.SlicesCompact
import Derived.ProofKit
import Derived.ChangeSame
import Derived.Carry
import Derived.SliceStrings
import Derived.ChangeMaps5
import Derived.Deep.Slices
import Derived.Test.YtpkanhklapfajaaGreatRows
import Derived.Shelf.Abstract
import Derived.Shelf.SlSortCmp.WholeK
import Derived.Shelf.SlSortCmp.Whole1
import Derived.Shelf.SlSortCmp.NoneTotal
import Derived.Deep.RegionLaw
import Derived.Lib.Walk
import Derived.Lib.Overlaps
import Derived.Lib.AppendZerosOnto
import Derived.Laws.CopyRow
import Derived.Test.YtpkanhklapfajaaGreatKP1
import Derived.Test.YtpkanhklapfajaaGreatKP2
import Derived.Test.YtpkanhklapfajaaGreatKP3
import Derived.Test.YtpkanhklapfajaaGreatKP4
import Derived.Test.YtpkanhklapfajaaGreatKP5
set_option maxRecDepth 20000
set_option maxHeartbeats 16000000
set_option linter.unusedVariables false
set_option linter.unusedSimpArgs false
namespace Go.Abs
open Go Go.RowKit Go.ChangeShapes Go.WideShapes Go.ChangeAt
variable {P:Program} {H:Type} {enc:TypeId×Value→H}
mutual
def TyB:TD→List AV→Nat→Prop
  | .bool,_,n=>1≤n
  | .int _,_,n=>1≤n
  | .str,_,n=>1≤n
  | .sl _ d,cs,n=>∃ (xs:List (List AV)) (ms:List Nat),cs=[.sl d.n xs]∧ms.length=xs.length∧(∀ (i:Nat) x m,xs[i]?=some x→ms[i]?=some m→TyB d x m)∧ms.sum+1≤n
  | .agg ds,cs,n=>∃ m,TyBL ds cs m∧m+1≤n
def TyBL:List TD→List AV→Nat→Prop
  | [],_,_=>True
  | d::r,cs,n=>∃ a b m1 m2,cs=a++b∧a.length=d.n∧TyB d a m1∧TyBL r b m2∧m1+m2≤n
end
structure IsBulk (B:DataW H→Nat):Prop where
  one:∀ d,1≤B d
  sl:∀ e s,(e.map B).sum+1≤B (.slice e s)
  ag:∀ p,(p.map B).sum+1≤B (.agg p)
section
variable {W:World} {base:Nat} {sp:Nat→Bool} {held:Bool} {B:DataW H→Nat}
def aUu (_B:DataW H→Nat) (W:World) (d:TD) (vs:List Value) (n:Nat):Prop:=∃ cs,Ty d cs∧TyB d cs n∧RelL W rH cs vs∧∀ c∈cs,c.leaf=true
theorem aF3 (f:TypeId→Option TD) (IH:∀ t d,f t=some d→∀ fuel vs x,DataW.trod enc P W base sp held fuel t vs=some x→sW P t x.1→aUu B W d vs (B x.1)) :
    ∀ (segs:List (Nat×TypeId)) (pts:List (DataW H)) (o:Nat) (ds:List TD) (vs:List Value),jD P f o segs=some ds→pts.length=segs.length →
      (∀ (i:Nat) s,segs[i]?=some s→∃ fuel x,DataW.trod enc P W base sp held fuel s.2 ((vs.drop s.1).take (P.cellsOf s.2))=some x∧sW P s.2 x.1∧pts[i]?=some x.1)→o+TD.nL ds=vs.length →
      ∃ cs,TyL ds cs∧TyBL ds cs (pts.map B).sum∧RelL W rH cs (vs.drop o)∧∀ c∈cs,c.leaf=true:=by
  intro segs
  induction segs with
  | nil =>
    intro pts o ds vs h hpl _ hl
    simp only[jD,Option.some.injEq] at h
    subst h
    simp only[TD.nL,Nat.add_zero] at hl
    refine⟨[],by simp [TyL],by simp [TyBL],⟨by simp [hl],fun i c v hc _=>by simp at hc⟩,by simp⟩
  | cons s r ih =>
    intro pts o ds vs h hpl hx hl
    obtain ⟨off,t⟩:=s
    obtain ⟨pt,pts,rfl⟩:∃ a b,pts=a::b:=by cases pts with
      | nil=>simp at hpl
      | cons a b=>exact⟨a,b,rfl⟩
    simp only[jD] at h
    split at h
    · rename_i d hd
      split at h
      · rename_i hc
        obtain ⟨rfl,hn⟩:=hc
        cases hr:jD P f (off+d.n) r with
        | none=>simp [hr] at h
        | some es =>
          simp only[hr,Option.map_some,Option.some.injEq] at h
          subst h
          simp only[TD.nL] at hl
          obtain ⟨fuel,x,hx1,hw1,hp1⟩:=hx 0 (off,t) (by simp)
          obtain rfl:pt=x.1:=by simpa using hp1
          obtain ⟨a,ha1,haB,ha2,ha3⟩:=IH t d hd fuel _ x hx1 hw1
          obtain ⟨b,hb1,hbB,hb2,hb3⟩:=ih pts (off+d.n) es vs hr (by simpa using hpl) (fun i s hs=>hx (i+1) s (by simpa using hs)) (by omega)
          refine⟨a++b,by simp only[TyL]; exact⟨a,b,rfl,ha1,hb1⟩,by simp only[TyBL]; exact⟨a,b,_,_,rfl,yN ha1,haB,hbB,by simp⟩,?_,fun c hc=>(List.mem_append.1 hc).elim (ha3 c) (hb3 c)⟩
          have e:vs.drop off=(vs.drop off).take (P.cellsOf t)++vs.drop (off+d.n):=by
            rw[← hn,← List.drop_drop]; exact(List.take_append_drop _ _).symm
          rw[e]
          exact ha2.app hb2
      · cases h
    · cases h
theorem aNo (
                    hB:IsBulk B):∀ (n:Nat) (t:TypeId) (d:TD),tdOf? P n t=some d→∀ fuel vs x,DataW.trod enc P W base sp held fuel t vs=some x→sW P t x.1→aUu B W d vs (B x.1):=by
  intro n
  induction n with
  | zero=>intro t d h; simp [tdOf?] at h
  | succ n ih =>
    intro t d h fuel vs x hx hlw
    unfold tdOf? at h
    split at h
    · rename_i ht; cases h
      obtain ⟨b,rfl,_⟩:=DataW.trod_bool ht hx
      exact⟨[.s (.bool b)],by simp only[Ty]; exact⟨b,rfl⟩,by simp only[TyB]; exact hB.one _,.one (.s _),by simp [AV.leaf,Value.oneCell']⟩
    · rename_i k ht; cases h
      obtain ⟨z,rfl,_,hw⟩:=DataW.trod_int ht hx
      exact⟨[.s (.int k z)],by simp only[Ty]; exact⟨z,rfl,hw⟩,by simp only[TyB]; exact hB.one _,.one (.s _),by simp [AV.leaf,Value.oneCell']⟩
    · rename_i ht; cases h
      obtain ⟨s,rfl,rfl,hw⟩:=DataW.trod_string ht hx
      have hws:=hlw s.data.toList.length (by simp [DataW.weights])
      exact⟨[.s (.string s)],by simp only[Ty]; exact⟨s,rfl,by simpa [reachBytes] using hws⟩,by simp only[TyB]; exact hB.one _,.one (.s _),by simp [AV.leaf,Value.oneCell']⟩
    · rename_i e ht
      split at h
      · rename_i de hde
        split at h
        · rename_i hn
          obtain ⟨hn,hpos⟩:=hn
          cases h
          have hmx:maxLen=9223372036854775807:=rfl
          rcases Go.Deep.open_slice ht hx with ⟨rfl,_⟩ | ⟨a,len,cap,m,fu,D,Pl,rfl,_,hl,hm,hmm,hxe,hel⟩
          · exact⟨[.sl de.n []],by simp only[Ty]; exact⟨[],rfl,by simp,by simp,by simp⟩,by simp only[TyB]; exact⟨[],[],rfl,rfl,by simp,by simpa using hB.one _⟩,.one (.sln _ _ _ (by simp [maxLen])),by simp [AV.leaf]⟩
          · have hlm:len≤m:=by rw[hmm]; split <;> omega
            have hlen48:len*P.bytesOf e≤140737488351232:=by
              have h0:=hlw ((((List.range len).map D).length+((List.range (m - len)).map fun j=>D (len+j)).length)*P.bytesOf e) (by rw[hxe]; simp [DataW.weights,ht])
              have h1:len*P.bytesOf e≤(((List.range len).map D).length+((List.range (m - len)).map fun j=>D (len+j)).length)*P.bytesOf e:=Nat.mul_le_mul_right _ (by simp)
              have:reachBytes=140737488351232:=rfl
              omega
            have hlD:∀ i,i<len→sW P e (D i):=fun i hi q hq=>hlw q (by
              rw[hxe]
              simp only[DataW.weights,ht,List.mem_cons,List.mem_append]
              exact .inr (.inl (kC (List.mem_map.2 ⟨i,by simpa using hi,rfl⟩) hq)))
            have key:∀ i,i<len→∃ q:List AV×List Value,(Ty de q.1∧TyB de q.1 (B (D i)))∧RelL W rH q.1 q.2∧(∀ c∈q.1,c.leaf=true)∧W.cells? base (a.add (i*P.cellsOf e)) (P.cellsOf e)=some q.2:=by
              intro i hi
              obtain ⟨cs',h1,h2⟩:=hel i (by omega)
              obtain ⟨cs,k1,kB,k2,k3⟩:=ih e de hde fu cs' _ h2 (hlD i hi)
              exact⟨(cs,cs'),⟨k1,kB⟩,k2,k3,h1⟩
            obtain ⟨g,hg⟩:=Go.Deep.choose_lt key
            by_cases h0:len=0
            · subst h0
              exact⟨[.sl de.n []],by simp only[Ty]; exact⟨[],rfl,by simp,by simp,by simp⟩,by simp only[TyB]; exact⟨[],[],rfl,rfl,by simp,by simpa using hB.one _⟩,.one (.sln _ _ _ hm),by simp [AV.leaf]⟩
            · have hcell:∀ j i,j<len→i<de.n→W.cell? ((a.add (j*de.n)).add i)=(g j).2[i]?:=by
                intro j i hj hi
                have:=(hg j hj).2.2.2
                rw[← hn] at this
                exact(World.cells?_some this).2.2 i hi
              have hlen:∀ j,j<len→(g j).1.length=de.n∧(g j).2.length=de.n:=by
                intro j hj
                have h1:=yN (hg j hj).1.1
                exact⟨h1,by rw[← (hg j hj).2.1.1,h1]⟩
              have hspot:a.spot=none:=by
                have h1:=hcell 0 0 (by omega) hpos
                cases hs:a.spot with
                | none=>rfl
                | some x =>
                  exfalso
                  have h2:(g 0).2[0]?≠none:=by
                    have:=(hlen 0 (by omega)).2
                    rw[List.getElem?_eq_getElem (by omega)]; simp
                  rw[← h1] at h2
                  apply h2
                  have:((a.add (0*de.n)).add 0)=a:=by simp [Addr.add]
                  rw[this]
                  simp only[World.cell?,hs]
                  split <;> simp
              have hblk:a.block<W.heap.size:=by
                have h1:=hcell 0 0 (by omega) hpos
                have h2:(g 0).2[0]?≠none:=by
                  have:=(hlen 0 (by omega)).2
                  rw[List.getElem?_eq_getElem (by omega)]; simp
                rw[← h1] at h2
                have:((a.add (0*de.n)).add 0)=a:=by simp [Addr.add]
                rw[this] at h2
                simp only[World.cell?] at h2
                split at h2
                · rename_i h; exact(Array.getElem?_eq_some_iff.1 h).1
                · exact absurd rfl h2
              obtain ⟨b,off,spot⟩:=a
              simp only at hspot hblk
              subst hspot
              have hll:((List.range len).map fun j=>(g j).1).length=len:=by simp
              have hget:∀ (j:Nat) x,((List.range len).map fun j=>(g j).1)[j]?=some x→j<len∧x=(g j).1:=by
                intro j x hj
                rw[List.getElem?_map] at hj
                cases hq:(List.range len)[j]? with
                | none=>simp [hq] at hj
                | some s =>
                  obtain ⟨h1,h2⟩:=List.getElem?_eq_some_iff.1 hq
                  simp at h1 h2
                  subst h2
                  simp [hq] at hj
                  exact⟨h1,hj.symm⟩
              have ty:∀ x∈(List.range len).map fun j=>(g j).1,Ty de x:=by
                intro x hxm
                obtain ⟨j,hj,rfl⟩:=List.mem_map.1 hxm
                exact(hg j (by simpa using hj)).1.1
              have key:=RelV.slc (w:=W) (p:=rH) de.n ((List.range len).map fun j=>(g j).1) b off cap (fun j i=>((g j).2[i]?).getD undef) (aPq hblk) (by rw[hll]; exact hl) hm
                (fun x hxm=>by
                  obtain ⟨j,hj,rfl⟩:=List.mem_map.1 hxm
                  have hj':j<len:=by simpa using hj
                  exact⟨(hlen j hj').1,(hg j hj').2.2.1⟩)
                (fun j x i c hj hi=>by
                  obtain ⟨hj',rfl⟩:=hget j x hj
                  have hi':i<de.n:=by rw[← (hlen j hj').1]; exact(List.getElem?_eq_some_iff.1 hi).1
                  have h1:=hcell j i hj' hi'
                  rw[jH,jH] at h1
                  rw[h1,List.getElem?_eq_getElem (by rw[(hlen j hj').2]; exact hi')]
                  rfl)
                (fun j x i c hj hi=>by
                  obtain ⟨hj',rfl⟩:=hget j x hj
                  have hi':i<de.n:=by rw[← (hlen j hj').1]; exact(List.getElem?_eq_some_iff.1 hi).1
                  have hv:(g j).2[i]?=some ((g j).2[i]'(by rw[(hlen j hj').2]; exact hi')):=List.getElem?_eq_getElem _
                  rw[hv]
                  exact(hg j hj').2.1.2 i c _ hi hv)
              rw[hll] at key
              exact⟨[.sl de.n ((List.range len).map fun j=>(g j).1)],by simp only[Ty]; exact⟨_,rfl,by rw[hll]; omega,by rw[hll]; exact hlen48,ty⟩,by simp only[TyB]; exact⟨_,(List.range len).map (fun j=>B (D j)),rfl,by simp,(fun i y m hy hm=>by
                obtain ⟨hi,rfl⟩:=hget i y hy
                have:m=B (D i):=by
                  rw[List.getElem?_map,List.getElem?_range hi] at hm; simpa using hm.symm
                rw[this]; exact(hg i hi).1.2),by
                rw[hxe]; exact Nat.le_trans (by simp [Function.comp_def]) (hB.sl _ _)⟩,.one key,by simp [AV.leaf]⟩
        · cases h
      · cases h
    · rename_i fs ht
      split at h
      · rename_i ds hds
        split at h
        · rename_i hn
          cases h
          obtain ⟨xs,fu,_,hxe,hlen,hxl,hf⟩:=DataW.trod_struct ht hx
          obtain ⟨cs,h1,hBB,h2,h3⟩:=aF3 (tdOf? P n) (fun t d h=>ih t d h) _ (xs.map Prod.fst) 0 ds vs hds (by simpa using hxl) (fun i s hs=>by
            obtain ⟨f,hi,rfl⟩:∃ f,fs.toList[i]?=some f∧s=(f.offset,f.type):=by
              rw[List.getElem?_map] at hs
              cases hq:fs.toList[i]? with
              | none=>simp [hq] at hs
              | some f=>exact⟨f,rfl,by simpa [hq] using hs.symm⟩
            have h4:=hf i f (by simpa using hi)
            cases hq:xs[i]? with
            | none =>
              exfalso
              have h5:=(List.getElem?_eq_some_iff.1 hi).1
              simp at h5 hq
              omega
            | some y =>
              refine⟨fu,y,by rw[h4,hq],fun q hq'=>hlw q ?_,by rw[List.getElem?_map,hq]; rfl⟩
              rw[hxe]
              simp only[DataW.weights,ht]
              exact lD (i:=i) (by rw[List.getElem?_map,hi]; rfl) (by rw[List.getElem?_map,hq]; rfl) hq') (by rw[hn,hlen]; omega)
          exact⟨cs,by simp only[Ty]; exact h1,by simp only[TyB]; exact⟨_,hBB,by rw[hxe]; exact hB.ag _⟩,h2,h3⟩
        · cases h
      · cases h
    · rename_i m e ht
      split at h
      · rename_i ds hds
        split at h
        · rename_i hn
          cases h
          obtain ⟨xs,fu,_,hxe,hlen,hxl,hf⟩:=DataW.trod_array ht hx
          obtain ⟨cs,h1,hBB,h2,h3⟩:=aF3 (tdOf? P n) (fun t d h=>ih t d h) _ (xs.map Prod.fst) 0 ds vs hds (by simpa using hxl) (fun i s hs=>by
            obtain ⟨hi,rfl⟩:i<m∧s=(i*P.cellsOf e,e):=by
              rw[List.getElem?_map] at hs
              by_cases him:i<m
              · rw[List.getElem?_range him] at hs; exact⟨him,by simpa using hs.symm⟩
              · rw[List.getElem?_eq_none (by simpa using him)] at hs; simp at hs
            have h4:=hf i hi
            cases hq:xs[i]? with
            | none=>exfalso; simp at hq; omega
            | some y =>
              refine⟨fu,y,by rw[h4,hq],fun q hq'=>hlw q ?_,by rw[List.getElem?_map,hq]; rfl⟩
              rw[hxe]
              simp only[DataW.weights,ht]
              exact kC (List.mem_map.2 ⟨y,List.mem_of_getElem? hq,rfl⟩) hq') (by rw[hn,hlen]; omega)
          exact⟨cs,by simp only[Ty]; exact h1,by simp only[TyB]; exact⟨_,hBB,by rw[hxe]; exact hB.ag _⟩,h2,h3⟩
        · cases h
      · cases h
    · cases h
theorem aC1 (hB:IsBulk B) {r:Reach} {b0 n:Nat} {t:TypeId} {v:Value} {d:DataW H} {ps:List MemPlace} {ds:List TD} (ht:tdOf? P n t=some (.agg ds)) (hag:agg? P t=some true)
    (hval:Value.okWide P W r b0 t v) (hd:DataW.Trod enc P W base sp held t v d ps) (hw:sW P t d):∃ cs,TyL ds cs∧TyB (.agg ds) cs (B d)∧RelV W rH (.agg cs) v:=by
  obtain ⟨fuel,hf⟩:=hd
  obtain ⟨cs,h1,hBB,h2,h3⟩:=aNo hB n t _ ht fuel _ _ hf hw
  simp only[Ty] at h1
  have:∃ us:Array Value,v=.agg us:=by
    unfold agg? at hag
    unfold Value.okWide at hval
    cases hu:P.underlying t with
    | none=>simp [hu] at hag
    | some q =>
      rw[hu] at hval
      cases q <;> simp_all <;> (obtain ⟨cs,h,_⟩:=hval; exact⟨cs,h⟩)
  obtain ⟨us,rfl⟩:=this
  refine⟨cs,h1,hBB,.agg _ _ (by simpa [Value.cells] using h2.1) (fun i c u hc hu=>h2.2 i c u hc (by simpa [Value.cells] using hu))⟩
end
theorem tyb_pos:∀ (d:TD) {cs:List AV} {n:Nat},TyB d cs n→1≤n
  | .bool,_,_,h=>by simpa only[TyB] using h
  | .int _,_,_,h=>by simpa only[TyB] using h
  | .str,_,_,h=>by simpa only[TyB] using h
  | .sl _ d,_,_,h=>by
    simp only[TyB] at h
    obtain ⟨_,_,_,_,_,h⟩:=h; omega
  | .agg _,_,_,h=>by
    simp only[TyB] at h
    obtain ⟨_,_,h⟩:=h; omega
theorem aPm {α:Type} {d:TD} {b k n:Nat} {enc:α→List AV} (f:α→Nat) (hf:∀ a m,TyB d (enc a) m→f a≤m) {l:List α} (h:TyB (.sl b d) [.sl k (l.map enc)] n):(l.map f).sum+1≤n:=by
  simp only[TyB] at h
  obtain ⟨xs,ms,he,hl,hx,hs⟩:=h
  obtain ⟨rfl,rfl⟩:k=d.n∧l.map enc=xs:=by simpa using he
  refine Nat.le_trans (Nat.add_le_add_right ?_ 1) hs
  clear hs he
  induction l generalizing ms with
  | nil=>simp
  | cons a l ih =>
    cases ms with
    | nil=>simp at hl
    | cons m ms =>
      have h1:=hf a m (hx 0 (enc a) m (by simp) (by simp))
      have h2:=ih ms (by simpa using hl) (fun i x q hi hq=>hx (i+1) x q (by simpa using hi) (by simpa using hq))
      simp only[List.map_cons,List.sum_cons]; omega
theorem aPo {α:Type}:∀ (l:List α),(l.map fun _=>1).sum=l.length
  | []=>rfl
  | _::l=>by simp only[List.map_cons,List.sum_cons,aPo l,List.length_cons]; omega
theorem aBw {α:Type} {d:TD} {b k n:Nat} {enc:α→List AV} {l:List α} (h:TyB (.sl b d) [.sl k (l.map enc)] n):l.length+1≤n:=by
  have:=aPm (fun _=>1) (fun a m hm=>tyb_pos d hm) h
  rwa [aPo] at this
theorem pZ {d:TD} {r:List TD} {c:AV} {cs:List AV} {n:Nat} (hd:d.n=1) (h:TyBL (d::r) (c::cs) n):∃ m1 m2,TyB d [c] m1∧TyBL r cs m2∧m1+m2≤n:=by
  simp only[TyBL] at h
  obtain ⟨a,b,m1,m2,he,hl,h1,h2,h3⟩:=h
  match a,hl.trans hd with
  | [x],_ =>
    simp only[List.cons_append,List.nil_append,List.cons.injEq] at he
    obtain ⟨rfl,rfl⟩:=he
    exact⟨m1,m2,h1,h2,h3⟩
end Go.Abs
set_option linter.unusedVariables false
set_option linter.unusedSimpArgs false
namespace Go.Abs
open Go
theorem aKn:∀ (l:List Us),(l.map fun x=>x.2.length+1).sum=mI l+l.length
  | []=>rfl
  | x::l=>by
    have:=aKn l
    simp only[mI,List.map_cons,List.sum_cons,List.length_cons] at this ⊢
    omega
theorem tyb_us {a:Us} {m:Nat} (h:TyB (.agg [.str,.sl 32 (.agg [.int .i64,.int .i64,.int .i64,.int .i64])]) (usC a) m):a.2.length+1≤m:=by
  simp only[TyB] at h
  obtain ⟨m',h,e⟩:=h
  obtain ⟨a1,b1,_,h,e1⟩:=pZ rfl h
  obtain ⟨a2,b2,h2,h,e2⟩:=pZ rfl h
  have:=aBw h2
  omega
theorem aG0 {s:Sta} {n:Nat} (h:TyB (.agg [.int .i64,.int .i64,.sl 40 (.agg [.int .i64,.str,.int .i64,.int .i64]),.sl 40 (.agg [.str,.sl 32 (.agg [.int .i64,.int .i64,.int .i64,.int .i64])]),.sl 48 (.agg [.str,.str,.int .i64,.int .i64]),.sl 24 (.agg [.str,.int .i64])]) (bJ s) n):fG s+s.usr.length≤n:=by
  simp only[TyB] at h
  obtain ⟨m,h,hm⟩:=h
  obtain ⟨a1,b1,_,h,e1⟩:=pZ rfl h
  obtain ⟨a2,b2,_,h,e2⟩:=pZ rfl h
  obtain ⟨a3,b3,h3,h,e3⟩:=pZ rfl h
  obtain ⟨a4,b4,h4,h,e4⟩:=pZ rfl h
  obtain ⟨a5,b5,h5,h,e5⟩:=pZ rfl h
  obtain ⟨a6,b6,h6,h,e6⟩:=pZ rfl h
  have k3:=aBw h3
  have k4:=aPm (fun x:Us=>x.2.length+1) (fun a m hm=>tyb_us hm) h4
  have k5:=aBw h5
  have k6:=aBw h6
  rw[aKn] at k4
  unfold fG
  omega
end Go.Abs
