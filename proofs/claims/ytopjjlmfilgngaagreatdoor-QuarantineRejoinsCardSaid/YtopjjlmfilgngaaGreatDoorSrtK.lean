/-
  slices.SortFunc at a row of the call's own, of any element: the row holds a sorted permutation of what it held. No program is in sight.
-/
import Derived.Shelf.SlSortCmp.NoneTotal
import Derived.Test.YtopjjlmfilgngaaGreatDoorGae
import Derived.Test.YtopjjlmfilgngaaGreatDoorGaa
import Derived.Test.YtopjjlmfilgngaaGreatDoorGr
namespace Go.Proofs.YtopjjlmfilgngaaGreatDoor
open Go.RowKit
set_option linter.unusedSimpArgs false
set_option linter.unusedVariables false
theorem vR {β:Type}{enc:β->List Value}{k:Nat}(hk: ∀x,(enc x).length=k): ∀(l:List β) (i j:Nat) (hi:i<l.length),j<k->(l.flatMap enc)[i*k+j]?=(enc l[i])[j]?
 | [],i,j,hi,_=>absurd hi (by simp)
 |x :: l,0,j,_,hj=>by
  rw[List.flatMap_cons,Nat.zero_mul,Nat.zero_add,List.getElem?_append_left (by rw[hk];exact hj)];rfl
 |x :: l,i+1,j,hi,hj=>by
  rw[List.flatMap_cons,List.getElem?_append_right (by rw[hk,Nat.add_mul];omega),hk,show (i+1)*k+j-k=i*k+j from by rw[Nat.add_mul];omega];exact vR hk l i j (by simpa using hi) hj
theorem mP {β:Type}{enc:β->List Value}{k:Nat}(hk: ∀x,(enc x).length=k): ∀(l:List β),(l.flatMap enc).length=l.length*k
 | []=>by simp
 |x :: l=>by rw[List.flatMap_cons,List.length_append,hk,mP hk l,List.length_cons,Nat.add_mul];omega
theorem flatK_list {β:Type}[Inhabited β]{enc:β->List Value}{k:Nat}(hk: ∀x,(enc x).length=k)(hp:0<k)(d:Array β):(Sort.flatK enc k d).toList=d.toList.flatMap enc:=by
 apply List.ext_getElem?;intro t;by_cases ht:t<d.size*k
 ·have h1:t / k<d.size:=(Nat.div_lt_iff_lt_mul hp).2 ht;have h2:=Nat.mod_lt t hp;have h3:t / k*k+t % k=t:=by rw[Nat.mul_comm];exact Nat.div_add_mod t k
  have h4:=vR hk d.toList (t / k) (t % k) (by simpa using h1) h2;rw[h3]at h4;rw[h4,Array.getElem?_toList];have h5:=Sort.get_flatK enc k d t ht;have h6:t<(Sort.flatK enc k d).size:=by rw[Sort.size_flatK];exact ht
  rw[getElem!_pos (Sort.flatK enc k d) t h6]at h5;rw[Array.getElem?_eq_getElem h6,h5];have h7:t % k<(enc d[t / k]!).length:=by rw[hk];exact h2
  rw[getElem!_pos (enc d[t / k]!) (t % k) h7,List.getElem?_eq_getElem (by rw[hk];exact h2)];simp[getElem!_pos d (t / k) h1]
 ·rw[List.getElem?_eq_none (by simp;omega),List.getElem?_eq_none (by rw[mP hk];simpa using ht)]
theorem holds_flat {w:World}{g:Nat}{cur:Array Value}{e:TypeId}{F:Array Value}(hb:w.heap[g]?=some (.cells cur e (0,0)))(ht:cur.toList.take F.size=F.toList):Sort.Holds id w g 0 F:=by
 intro j hj;refine ⟨?_,by simp[World.frozen?,hb]⟩;have h1:(cur.toList.take F.size)[j]?=F.toList[j]?:=by rw[ht]
 rw[List.getElem?_take_of_lt hj]at h1;simp only[World.cell?,hb,Nat.zero_add];simp only[Option.isSome_none,Bool.false_eq_true,if_false];rw[<-Array.getElem?_toList,h1];simp[hj]
theorem heap_putV {w:World}{g n:Nat}{os:Array Obj}{cur:Array Value}{e:TypeId}{fr:Nat×Nat}(F:Array Value)(hb:w.heap[g]?=some (.cells cur e fr)):
  (Sort.grow (Sort.putRow id (Sort.ahead w n) g 0 F) os).heap[g]?=some (.cells (Sort.putCells id 0 F cur) e fr):=by
 have hg:g<w.heap.size:=(Array.getElem?_eq_some_iff.1 hb).1;rw[Sort.heap_grow_old _ _ (by rw[Sort.size_putRow];exact hg)];simp[Sort.putRow,Sort.mapBlock,Sort.ahead,Array.getElem?_modify,hb,Sort.onCells]
theorem grownBy_putV {w:World}{g n:Nat}{os:Array Obj}(F:Array Value):w.grownBy (Sort.grow (Sort.putRow id (Sort.ahead w n) g 0 F) os) (some g):=by
 refine ⟨rfl,rfl,rfl,by rw[Sort.size_grow,Sort.size_putRow];exact Nat.le_add_right _ _,λk hk hne=>?_⟩;rw[Sort.heap_grow_old _ _ (by rw[Sort.size_putRow];exact hk)];have:g≠k:=λe=>hne (by rw[e]);simp[Sort.putRow,Sort.mapBlock,Sort.ahead,Array.getElem?_modify,this]
theorem take_putV (cur F:Array Value)(h:F.size<=cur.size):(Sort.putCells id 0 F cur).toList.take F.size=F.toList:=by
 apply List.ext_getElem?;intro j;by_cases hj:j<F.size
 ·rw[List.getElem?_take_of_lt hj,Array.getElem?_toList,Array.getElem?_toList];simp[Sort.putCells,hj,show j<cur.size by omega]
 ·rw[List.getElem?_take_eq_none (by omega),List.getElem?_eq_none (by simp;omega)]
abbrev Elt (α:Type)[Rep α](w:World)(S:Nat->Prop):={p:List Value×α // Rep.rd w S p.1 p.2}
theorem elts_of {α:Type}[Rep α]{w:World}{S:Nat->Prop}: ∀{xs:List α} {cs:List Value},Cells w S cs xs-> ∃ds:List (Elt α w S),ds.map (·.1.2)=xs/\ds.flatMap (·.1.1)=cs
 | [],cs,h=>⟨[],rfl,(show cs=[] from h).symm⟩
 |x :: xs,cs,⟨c0,c1,e,h0,h1⟩=>by
  obtain ⟨ds,e1,e2⟩:=elts_of h1;exact ⟨⟨(c0,x),h0⟩ :: ds,by rw[List.map_cons,e1],by rw[List.flatMap_cons,e2,e]⟩
theorem cells_of {α:Type}[Rep α]{w:World}{S:Nat->Prop}: ∀(ds:List (Elt α w S)),Cells w S (ds.flatMap (·.1.1)) (ds.map (·.1.2))
 | []=>rfl
 |x :: ds=>⟨x.1.1,_,by rw[List.flatMap_cons],x.2,cells_of ds⟩
theorem swo_map {α β:Type}{f:α->α->Int}(h:Sort.SWO (ltOf f))(m:β->α):Sort.SWO (ltOf λx y:β=>f (m x) (m y)):=
 ⟨λx=>h.irrefl (m x),λx y z=>h.trans (m x) (m y) (m z),λx y z=>h.ntrans (m x) (m y) (m z)⟩
theorem swo_total {α:Type}{f:α->α->Int}(h:Total f):Sort.SWO (ltOf f) where
 irrefl x:=by
  have:=(h.zero x x).2 rfl;simp[ltOf,this]
 trans x y z h1 h2:=by
  simp only[ltOf,decide_eq_true_eq]at*;exact h.trans x y z h1 h2
 ntrans x y z h1 h2:=by
  simp only[ltOf,decide_eq_false_iff_not]at*;intro h3;have a1:=h.anti y x;by_cases q:f x y=0
  ·have:=(h.zero x y).1 q;subst this;exact h2 h3
  ·have q2:f y x<0:=by omega
   exact h2 (h.trans y x z q2 h3)
section
variable {P:Program}{ρ:Shelf.Ren}
theorem sort_OL (L:SlLaysF0.n6 P ρ){α:Type}[Rep α][One α](hp:0<Rep.size α)(aE: ∀w,(isAgg (ρ.t 24)).run P w=.ok true w)(zE: ∀w,(Go.sizeOf (ρ.t 24)).run P w=.ok (Rep.size α) w)(f:α->α->Int)(hO:Sort.SWO (ltOf f))(fn:Nat)(cb:Array Value)(eg: ∀args w,(callFunc fn args).run P w=.ok (.enter fn args) w)(hcmp: ∀(W:World) (c1 c2:List Value) (x y:α),Rep.rd W (λk=>k<W.heap.size) c1 x->Rep.rd W (λk=>k<W.heap.size) c2 y->
   Calls P fn (#[.agg c1.toArray,.agg c2.toArray]++cb) W λe w'=>e=.returned (.int .i64 (f x y))/\Gr W w'){e:TypeId}{B:Nat}{O:Nat->Prop}{T:List TypeId}{w:World}{v:Value}{xs:List α}(h:OL e B O T w v xs)(hT:e∉T)(hsz:xs.length<4611686018427387904):
  Calls P (ρ.f 6) #[v,.func (.func fn) #[] cb] w λr w'=>r=.returned (.tuple #[])/\ ∃ys:List α,ys.Perm xs/\ys.Pairwise (λa b=>¬f b a<0)/\OL e B O T w' v ys/\w.grownBy w' v.ownBlock:=by
 obtain ⟨cs,h1,h2⟩:=h.own;rcases h1.2 with ⟨rfl,hz⟩|⟨g,cap,cur,rfl,hbase,hgb,r1,r2,r3,r4⟩
 ·obtain rfl:xs=[]:=List.eq_nil_of_length_eq_zero hz;refine (AnyF.slices_SortFunc_none L none 0 _ w).mono ?_;rintro r w' ⟨rfl,rfl⟩;exact ⟨rfl,[],.refl _,.nil,h,World.grownBy.refl _ _⟩
 have hgl:g<w.heap.size:=(Array.getElem?_eq_some_iff.1 hgb).1;have hgT:bi w e g:=⟨cur,hgb⟩;have hne: ∀k,BS B O T w k->g≠k:=λk hk q=>by
  subst q;rcases hk with ⟨_,hk⟩|⟨_,t',ht',hk⟩
  ·omega
  ·exact bi.ne hgT hk (λe'=>hT (e'▸ht')) rfl
 obtain ⟨ds,hd1,hd2⟩:=elts_of h2;by_cases hz:xs.length=0
 ·obtain rfl:xs=[]:=List.eq_nil_of_length_eq_zero hz;refine (AnyF.slices_SortFunc_none L _ _ _ w).mono ?_;rintro r w' ⟨rfl,rfl⟩;exact ⟨rfl,[],.refl _,.nil,h,World.grownBy.refl _ _⟩
 have hin:Nonempty (Elt α w (BS B O T w)):=by
  cases ds with
  |nil=>rw[<-hd1]at hz;simp at hz
  |cons d _=>exact ⟨d⟩
 letI:Inhabited (Elt α w (BS B O T w)):=Classical.inhabited_of_nonempty hin
 have hk: ∀x:Elt α w (BS B O T w),x.1.1.length=Rep.size α:=λx=>Rep.len x.2;have hlen:ds.length=xs.length:=by rw[<-hd1,List.length_map]
 have hfl:=flatK_list (enc:=λx:Elt α w (BS B O T w)=>x.1.1) hk hp ds.toArray;have hfs:(Sort.flatK (λx:Elt α w (BS B O T w)=>x.1.1) (Rep.size α) ds.toArray).size=xs.length*Rep.size α:=by rw[Sort.size_flatK,List.size_toArray,hlen]
 have hH:Sort.HoldsK (λx:Elt α w (BS B O T w)=>x.1.1) (Rep.size α) w g 0 ds.toArray:=holds_flat hgb (by rw[hfs,r4,hfl,<-hd2]);have hcm:CmpLays P fn cb (λx:Elt α w (BS B O T w)=>x.1.1) (Rep.size α) (λx y=>f x.1.2 y.1.2) g 0 ds.toArray.size w:=by
  intro m os dk hdk x y;have hgr:w.grownBy (sortWorldK (λx:Elt α w (BS B O T w)=>x.1.1) (Rep.size α) w g 0 m dk os) (some g):=grownBy_putV _;generalize sortWorldK (λx:Elt α w (BS B O T w)=>x.1.1) (Rep.size α) w g 0 m dk os=W at hgr⊢;have hsm:Same (BS B O T w) w W:=λk hk'=>hgr.block k (hk'.lt h.base) (λq=>hne k hk' (by injection q with q;exact q.symm));have hlt: ∀k,BS B O T w k->k<W.heap.size:=λk hk'=>Nat.lt_of_lt_of_le (hk'.lt h.base) hgr.size;exact hcmp W _ _ _ _ (Rep.mono hlt (Rep.keep hsm x.2)) (Rep.mono hlt (Rep.keep hsm y.2))
 have hcall:=AnyQ.slices_SortFunc L (Rep.size α) aE zE (λx:Elt α w (BS B O T w)=>x.1.1) hk (λx=>One.one x.2) (λx y=>f x.1.2 y.1.2) (swo_map hO λx:Elt α w (BS B O T w)=>x.1.2) fn cb g 0 cap ds.toArray w eg hcm hH hgl (by rw[List.size_toArray,hlen];exact hsz);rw[List.size_toArray,hlen]at hcall;refine hcall.mono ?_;rintro r w' ⟨rfl,d',n,os,⟨hs,_,hpm⟩,hso,rfl⟩;have hsz':d'.size=xs.length:=by rw[hs,List.size_toArray,hlen]
 have hpm2:d'.toList.Perm ds:=by
  have e1:d'.extract 0 xs.length=d':=by rw[<-hsz'];exact Array.extract_size
  have e2:ds.toArray.extract 0 xs.length=ds.toArray:=by rw[<-hlen,<-List.size_toArray];exact Array.extract_size
  rw[e1,e2]at hpm;exact hpm
 have hfl':=flatK_list (enc:=λx:Elt α w (BS B O T w)=>x.1.1) hk hp d';have hfs':(Sort.flatK (λx:Elt α w (BS B O T w)=>x.1.1) (Rep.size α) d').size=xs.length*Rep.size α:=by rw[Sort.size_flatK,hsz']
 have hgr:w.grownBy (sortWorldK (λx:Elt α w (BS B O T w)=>x.1.1) (Rep.size α) w g 0 n d' os) (some g):=grownBy_putV _;have hhp:(sortWorldK (λx:Elt α w (BS B O T w)=>x.1.1) (Rep.size α) w g 0 n d' os).heap[g]?=some (.cells (Sort.putCells id 0 (Sort.flatK (λx:Elt α w (BS B O T w)=>x.1.1) (Rep.size α) d') cur) e (0,0)):=heap_putV _ hgb;have hbs: ∀k,BS B O T w k->(sortWorldK (λx:Elt α w (BS B O T w)=>x.1.1) (Rep.size α) w g 0 n d' os).heap[k]?=w.heap[k]?:=λk hk'=>hgr.block k (hk'.lt h.base) (λq=>hne k hk' (by injection q with q;exact q.symm));have hyl:(d'.toList.map λx=>x.1.2).length=xs.length:=by rw[List.length_map,Array.length_toList,hsz']
 have hcap:xs.length*Rep.size α<=cap*Rep.size α:=Nat.mul_le_mul_right _ r1;refine ⟨rfl,d'.toList.map λx=>x.1.2,by rw[<-hd1];exact hpm2.map _,?_,⟨⟨d'.toList.flatMap λx=>x.1.1,⟨?_,.inr ⟨g,cap,_,by rw[hyl],hbase,hhp,by rw[hyl];exact r1,r2,?_,?_⟩⟩,?_⟩,Nat.le_trans h.base hgr.size⟩,hgr⟩
 ·rw[List.pairwise_map,List.pairwise_iff_getElem];intro i j hi hj hij;have hi':i<d'.size:=by simpa using hi
  have hj':j<d'.size:=by simpa using hj
  have:=hso i j (Nat.zero_le _) hij (by omega);rw[getElem!_pos d' i hi',getElem!_pos d' j hj']at this;simpa[ltOf] using this
 ·rw[mP hk,hyl,Array.length_toList,hsz']
 ·simp[Sort.putCells,r3]
 ·rw[hyl,<-hfl',<-hfs'];exact take_putV _ _ (by rw[hfs',r3];exact hcap)
 ·exact ((cells_of d'.toList).keep hbs).mono λk hk'=>hk'.kept (hbs k hk')
end
end Go.Proofs.YtopjjlmfilgngaaGreatDoor
