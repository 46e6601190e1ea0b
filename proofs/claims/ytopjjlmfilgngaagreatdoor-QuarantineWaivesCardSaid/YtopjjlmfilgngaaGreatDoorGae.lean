/-
  Slices that a call makes by append: their cells, element by element; append as one step of a walk, whatever the source (nil too). No program is in sight. Lists that a call builds by append, of any element: their row is the call's own, what the elements refer to lies in blocks from before the call or in new blocks of given types. No program is in sight. A slice that a call has built of given cells, and a struct of given cells, read as lists and structs. No program is in sight.
-/
import Derived.Maps.AppendAt
import Derived.Deep.AppendLies
import Derived.Deep.RegionLaw
import Derived.OwnWalk
import Derived.Test.YtopjjlmfilgngaaGreatDoorGac
namespace Go.Proofs.YtopjjlmfilgngaaGreatDoor
open Go.RowKit
set_option linter.unusedSimpArgs false
set_option linter.unusedVariables false
def Cells {α:Type}[Rep α](w:World)(S:Nat->Prop):List Value->List α->Prop
 |cs,[]=>cs=[]
 |cs,x :: xs=> ∃c0 c1,cs=c0++c1/\Rep.rd w S c0 x/\Cells w S c1 xs
section
variable {α:Type}[Rep α]{w w':World}{S T:Nat->Prop}
theorem Cells.len: ∀{xs:List α} {cs:List Value},Cells w S cs xs->cs.length=xs.length*Rep.size α
 | [],_,h=>by simp[show _=[] from h]
 |x :: xs,_,⟨c0,c1,rfl,h0,h1⟩=>by
  have:=Cells.len h1;rw[List.length_append,Rep.len h0,this,List.length_cons,Nat.add_mul];omega
theorem Cells.keep (hs:Same S w w'): ∀{xs:List α} {cs:List Value},Cells w S cs xs->Cells w' S cs xs
 | [],_,h=>h
 |x :: xs,_,⟨c0,c1,e,h0,h1⟩=>⟨c0,c1,e,Rep.keep hs h0,Cells.keep hs h1⟩
theorem Cells.mono (hs: ∀k,S k->T k): ∀{xs:List α} {cs:List Value},Cells w S cs xs->Cells w T cs xs
 | [],_,h=>h
 |x :: xs,_,⟨c0,c1,e,h0,h1⟩=>⟨c0,c1,e,Rep.mono hs h0,Cells.mono hs h1⟩
theorem Cells.app {ys:List α}{ds:List Value}(hy:Cells w S ds ys): ∀{xs:List α} {cs:List Value},Cells w S cs xs->Cells w S (cs++ds) (xs++ys)
 | [],_,h=>by rw[show _=[] from h];exact hy
 |x :: xs,_,⟨c0,c1,e,h0,h1⟩=>⟨c0,c1++ds,by rw[e,List.append_assoc],h0,Cells.app hy h1⟩
theorem Cells.one {x:α}{cs:List Value}(h:Rep.rd w S cs x):Cells w S cs [x]:=⟨cs,[],by simp,h,rfl⟩
theorem Cells.get: ∀{xs:List α} {cs:List Value},Cells w S cs xs-> ∀i,(h:i<xs.length)-> ∃c,Rep.rd w S c xs[i]/\ ∀j,(hj:j<c.length)->cs[i*Rep.size α+j]?=some c[j]
 | [],_,_,i,h=>absurd h (by simp)
 |x :: xs,_,⟨c0,c1,e,h0,h1⟩,0,_=>⟨c0,h0,λj hj=>by
   rw[e,Nat.zero_mul,Nat.zero_add,List.getElem?_append_left hj,List.getElem?_eq_getElem hj]⟩
 |x :: xs,_,⟨c0,c1,e,h0,h1⟩,i+1,h=>by
   obtain ⟨c,hr,hc⟩:=Cells.get h1 i (by simpa using h);refine ⟨c,by simpa using hr,λj hj=>?_⟩;have hl:=Rep.len h0;rw[e,List.getElem?_append_right (by rw[hl,Nat.add_mul];omega),hl];rw[show (i+1)*Rep.size α+j-Rep.size α=i*Rep.size α+j from by rw[Nat.add_mul];omega];exact hc j hj
def Src (w:World)(size:Nat)(A:Option Addr)(m:Nat)(news:List Value):Prop:=news.length=m*size/\(0<m-> ∃b off,A=some ⟨b,off,none⟩/\ ∀j u,news[j]?=some u->w.cell? ⟨b,off+j,none⟩=some u)
theorem jw (b off j:Nat):(⟨b,off,none⟩:Addr).add j=⟨b,off+j,none⟩:=by
 unfold Addr.add;split
 ·rename_i h;rw[h];rfl
 ·rfl
theorem ER {b:Nat}: ∀{xs:List α} {off:Nat},(∀i,(h:i<xs.length)->At w S b (off+i*Rep.size α) xs[i])-> ∃cs,Cells w S cs xs/\ ∀j u,cs[j]?=some u->w.cell? ⟨b,off+j,none⟩=some u
 | [],off,_=>⟨[],rfl,λj u h=>by simp at h⟩
 |x :: xs,off,h=>by
  obtain ⟨c0,hr,hc⟩:=h 0 (by simp);obtain ⟨c1,h1,h2⟩:=ER (xs:=xs) (off:=off+Rep.size α) λi hi=>by
   have:=h (i+1) (by simpa using hi);rw[show off+Rep.size α+i*Rep.size α=off+(i+1)*Rep.size α from by rw[Nat.add_mul];omega];simpa using this
  refine ⟨c0++c1,⟨c0,c1,rfl,by simpa using hr,h1⟩,λj u hu=>?_⟩;have hl:=Rep.len hr;by_cases hj:j<c0.length
  ·rw[List.getElem?_append_left hj,List.getElem?_eq_getElem hj]at hu;injection hu with hu;have:=hc j hj;rw[hu]at this;simpa using this
  ·rw[List.getElem?_append_right (by omega),hl]at hu;have:=h2 _ u hu;rw[show off+Rep.size α+(j-Rep.size α)=off+j from by omega]at this;exact this
theorem Sl.cells {A:Option Addr}{n c:Nat}{xs:List α}(h:Sl w S A n c xs): ∃cs,Cells w S cs xs/\Src w (Rep.size α) A n cs:=by
 rcases Nat.eq_zero_or_pos n with h0|h0
 ·have:xs=[]:=List.eq_nil_of_length_eq_zero (by rw[h.1,h0]);subst this;exact ⟨[],rfl,by simp[h0],λh'=>by omega⟩
 ·obtain ⟨b,off,e,_,hi⟩:=h.2.2.2.2 h0;obtain ⟨cs,h1,h2⟩:=ER hi;exact ⟨cs,h1,by rw[h1.len,h.1],λ_=>⟨b,off,e,h2⟩⟩
theorem gP {base:Nat}{e:TypeId}{v:Value}{n:Nat}{cs:List Value}{xs:List α}(hown:w.ownsRow base e (Rep.size α) v n cs)(hc:Cells w S cs xs)(hS: ∀k,S k->T k)(hl:xs.length=n)(hT: ∀g,base<=g->dm w e g->T g): ∃A c,v=.slice A n c/\Sl w T A n c xs/\(v.ownBlock=none->n=0):=by
 rcases hown.2 with ⟨rfl,rfl⟩|⟨g,cap,cur,rfl,hg,hh,hnc,hmax,hsz,htk⟩
 ·exact ⟨none,0,rfl,⟨hl,Nat.le_refl _,by omega,λ_=>rfl,λh=>absurd h (by omega)⟩,λ_=>rfl⟩
 ·refine ⟨some ⟨g,0,none⟩,cap,rfl,⟨hl,hnc,by unfold maxLen at hmax;omega,(λh=>by cases h),λ_=>⟨g,0,rfl,hT g hg ⟨cur,hh⟩,λi hi=>?_⟩⟩,(λh=>by cases h)⟩;obtain ⟨c,hr,hcc⟩:=hc.get i hi;refine ⟨c,Rep.mono hS hr,λj hj=>?_⟩;have h1:=hcc j hj;rw[<-htk,List.getElem?_take]at h1
  split at h1
  ·rw[cell_of_row w g _ cur e (0,0) hh,Nat.zero_add,<-Array.getElem?_toList];exact h1
  ·cases h1
end
section
variable {P:Program}(w:World)
theorem xP (base:Nat)(t ty e:TypeId)(i:TypeInfo)(size:Nat)(ht:P.underlying t=some (.slice e))(hi:P.info? e=some i)(v:Value)(n:Nat)(xs:List Value)(hown:w.ownsRow base e size v n xs)(c:Nat):(Builtin.append_ #[t,t] ty #[v,.slice none 0 c]).run P w=.ok v w:=by
 rcases hown.2 with ⟨rfl,rfl⟩|⟨g,cap,cur,rfl,_,_,hnc,_⟩
 ·simp[Builtin.append_,run_underlying ht,sizeOf,typeInfo,hi,Builtin.lenOf,Builtin.firstCells]
 ·simp[Builtin.append_,run_underlying ht,sizeOf,typeInfo,hi,Builtin.lenOf,Builtin.firstCells,hnc,storeCells]
theorem zX (base:Nat)(t ty e:TypeId)(i:TypeInfo)(z:Value)(size bytes:Nat)(ht:P.underlying t=some (.slice e))(hi:P.info? e=some i)(hz:i.zero=some z)(hsize:i.size=size)(hby:i.bytes=bytes)(hzs:z.cells.size=size)(hsz:0<size)(v:Value)(n:Nat)(xs:List Value)(hown:w.ownsRow base e size v n xs)(A:Option Addr)(m c:Nat)(news:List Value)(hA:A=none->m=0)(hspot: ∀a,A=some a->a.spot=none)(hr:Src w size A m news)(h1: ∀u∈news,u.oneCell'=true)(h63:n+m<=maxLen)(hbytes:(n+m)*bytes<=140737488355328)(hbase:base<=w.heap.size):
  ∃v' w',(Builtin.append_ #[t,t] ty #[v,.slice A m c]).run P w=.ok v' w'/\w'.ownsRow base e size v' (n+m) (xs++news)/\w.grownBy w' v.ownBlock/\
   (v'.ownBlock=v.ownBlock\/v'.ownBlock=some w.heap.size):=by
 cases A with
 |none=>
  obtain rfl:=hA rfl;have hn:news=[]:=List.eq_nil_of_length_eq_zero (by simpa using hr.1);subst hn;exact ⟨v,w,xP w base t ty e i size ht hi v n xs hown c,by simpa using hown,World.grownBy.refl w _,.inl rfl⟩
 |some ad=>
  have hcells: ∀j u,news[j]?=some u->w.cell? (ad.add j)=some u:=by
   intro j u hu;rcases Nat.eq_zero_or_pos m with h0|h0
   ·subst h0;have hn:news=[]:=List.eq_nil_of_length_eq_zero (by simpa using hr.1);subst hn;simp at hu
   ·obtain ⟨b,off,e,hc⟩:=hr.2 h0;injection e with e;subst e;rw[jw];exact hc j u hu
  obtain ⟨v',w',hrun,h2,h3,_,h5⟩:=run_append_own_at (P:=P) w base t ty e i z size bytes ht hi hz hsize hby hzs hsz v n xs hown ad m c news hr.1 hcells h1 h63 hbytes hbase;exact ⟨v',w',hrun,h2,h3,h5⟩
theorem ow {o:Oper}{a:Act}{K:Act->World->Prop}{Q:Exit->Act->World->Prop}(s x:Operand)(t:TypeId)(ho:o.op=.call {callee:=.builtin .append,args:= #[s,x],argTypes:= #[t,t]})(base:Nat)(e:TypeId)(i:TypeInfo)(z:Value)(size bytes:Nat)(ht:P.underlying t=some (.slice e))(hi:P.info? e=some i)(hz:i.zero=some z)(hsize:i.size=size)(hby:i.bytes=bytes)(hzs:z.cells.size=size)(hsz:0<size)(v:Value)(n:Nat)(xs:List Value)(hs:a.eval s=v)(hown:w.ownsRow base e size v n xs)(A:Option Addr)(m c:Nat)(news:List Value)(hx:a.eval x=.slice A m c)(hA:A=none->m=0)(hr:Src w size A m news)(h1: ∀u∈news,u.oneCell'=true)(h63:n+m<=maxLen)(hbytes:(n+m)*bytes<=140737488355328)(hbase:base<=w.heap.size)(h: ∀v' w',w'.ownsRow base e size v' (n+m) (xs++news)->w.grownBy w' v.ownBlock->(v'.ownBlock=v.ownBlock\/v'.ownBlock=some w.heap.size)->K (a.put o.dst v') w'):o.wp P a w K Q:=by
 have key: ∃v' w',(Builtin.append_ #[t,t] o.type #[v,.slice A m c]).run P w=.ok v' w'/\w'.ownsRow base e size v' (n+m) (xs++news)/\w.grownBy w' v.ownBlock/\(v'.ownBlock=v.ownBlock\/v'.ownBlock=some w.heap.size):=by
  cases A with
  |none=>exact zX w base t o.type e i z size bytes ht hi hz hsize hby hzs hsz v n xs hown none m c news hA (λa h=>by cases h) hr h1 h63 hbytes hbase
  |some ad=>
   have hcells: ∀j u,news[j]?=some u->w.cell? (ad.add j)=some u:=by
    intro j u hu;rcases Nat.eq_zero_or_pos m with h0|h0
    ·subst h0;have hn:news=[]:=List.eq_nil_of_length_eq_zero (by simpa using hr.1);subst hn;simp at hu
    ·obtain ⟨b,off,e,hc⟩:=hr.2 h0;injection e with e;subst e;rw[jw];exact hc j u hu
   obtain ⟨v',w',hrun,h2,h3,_,h5⟩:=run_append_own_at (P:=P) w base t o.type e i z size bytes ht hi hz hsize hby hzs hsz v n xs hown ad m c news hr.1 hcells h1 h63 hbytes hbase;exact ⟨v',w',hrun,h2,h3,h5⟩
 obtain ⟨v',w',hrun,h2,h3,h4⟩:=key;unfold Oper.wp execOp;simp only[ho,resolve,invoke,builtin,Sem.run_bind,Sem.run_pure,Result.andThen_ok,List.map_toArray,List.map_cons,List.map_nil,hs,hx,hrun];exact h v' w' h2 h3 h4
theorem iK {ops:Array Oper}{rest:List Oper}{o:Oper}{a:Act}{Q:Exit->Act->World->Prop}(hgd:o.guard=none)(s x:Operand)(t:TypeId)(ho:o.op=.call {callee:=.builtin .append,args:= #[s,x],argTypes:= #[t,t]})(base:Nat)(e:TypeId)(i:TypeInfo)(z:Value)(size bytes:Nat)(ht:P.underlying t=some (.slice e))(hi:P.info? e=some i)(hz:i.zero=some z)(hsize:i.size=size)(hby:i.bytes=bytes)(hzs:z.cells.size=size)(hsz:0<size)(v:Value)(n:Nat)(xs:List Value)(hs:a.eval s=v)(hown:w.ownsRow base e size v n xs)(A:Option Addr)(m c:Nat)(news:List Value)(hx:a.eval x=.slice A m c)(hA:A=none->m=0)(hr:Src w size A m news)(h1: ∀u∈news,u.oneCell'=true)(h63:n+m<=maxLen)(hbytes:(n+m)*bytes<=140737488355328)(hbase:base<=w.heap.size)(h: ∀v' w',w'.ownsRow base e size v' (n+m) (xs++news)->w.grownBy w' v.ownBlock->(v'.ownBlock=v.ownBlock\/v'.ownBlock=some w.heap.size)->wpList P ops Q rest (a.put o.dst v') w'):wpList P ops Q (o :: rest) a w:=
 wpList_plain hgd λ_ hK=>ow w s x t ho base e i z size bytes ht hi hz hsize hby hzs hsz v n xs hs hown A m c news hx hA hr h1 h63 hbytes hbase λv' w' h2 h3 h4=>hK _ _ (h v' w' h2 h3 h4)
theorem dB {ops:Array Oper}{o:Oper}{a:Act}{K:Act->World->Prop}{Q:Exit->Act->World->Prop}{E:Prop}(hgd:o.guard=none)(s x:Operand)(t:TypeId)(ho:o.op=.call {callee:=.builtin .append,args:= #[s,x],argTypes:= #[t,t]})(base:Nat)(e:TypeId)(i:TypeInfo)(z:Value)(size bytes:Nat)(ht:P.underlying t=some (.slice e))(hi:P.info? e=some i)(hz:i.zero=some z)(hsize:i.size=size)(hby:i.bytes=bytes)(hzs:z.cells.size=size)(hsz:0<size)(v:Value)(n:Nat)(xs:List Value)(hs:a.eval s=v)(hown:w.ownsRow base e size v n xs)(A:Option Addr)(m c:Nat)(news:List Value)(hx:a.eval x=.slice A m c)(hA:A=none->m=0)(hr:Src w size A m news)(h1: ∀u∈news,u.oneCell'=true)(h63:n+m<=maxLen)(hbytes:(n+m)*bytes<=140737488355328)(hbase:base<=w.heap.size)(h: ∀v' w',w'.ownsRow base e size v' (n+m) (xs++news)->w.grownBy w' v.ownBlock->(v'.ownBlock=v.ownBlock\/v'.ownBlock=some w.heap.size)->K (a.put o.dst v') w'):
  if Region.wanted o (yielded ops a.tmps)=true then Oper.wp P o a w K Q else E:=by
 have hw:Region.wanted o (yielded ops a.tmps)=true:=by simp[Region.wanted,hgd]
 rw[if_pos hw];exact ow w s x t ho base e i z size bytes ht hi hz hsize hby hzs hsz v n xs hs hown A m c news hx hA hr h1 h63 hbytes hbase h
end
class One (α:Type) [Rep α]:Prop where
 one: ∀{w:World} {S:Nat->Prop} {cs:List Value} {a:α},Rep.rd w S cs a-> ∀u∈cs,u.oneCell'=true
instance:One Int:=⟨by rintro w S cs a ⟨rfl,_⟩ u hu;simp at hu;subst hu;rfl⟩
instance:One Bool:=⟨by rintro w S cs a rfl u hu;simp at hu;subst hu;rfl⟩
instance:One ByteArray:=⟨by rintro w S cs a ⟨rfl,_⟩ u hu;simp at hu;subst hu;rfl⟩
instance {α:Type} [Rep α]:One (List α):=⟨by rintro w S cs a ⟨A,n,c,rfl,_⟩ u hu;simp at hu;subst hu;rfl⟩
instance:One Val:=⟨by rintro w S cs a ⟨rfl,_⟩ u hu;simp[Val.cells]at hu;rcases hu with rfl|rfl|rfl <;> rfl⟩
instance:One Col:=⟨by rintro w S cs a ⟨rfl,_⟩ u hu;simp[Col.cells]at hu;rcases hu with rfl|rfl|rfl <;> rfl⟩
instance:One Shift:=⟨by rintro w S cs a ⟨rfl,_⟩ u hu;simp[Shift.cells]at hu;rcases hu with rfl|rfl <;> rfl⟩
instance:One Node:=⟨by rintro w S cs a ⟨rfl,_⟩ u hu;simp[Node.cells]at hu;rcases hu with rfl|rfl|rfl|rfl|rfl|rfl <;> rfl⟩
instance:One Ent:=⟨by rintro w S cs a ⟨A,n,c,rfl,_⟩ u hu;simp at hu;rcases hu with rfl|rfl <;> rfl⟩
instance:One Zone:=⟨by rintro w S cs a ⟨A,n,c,rfl,_⟩ u hu;simp at hu;rcases hu with rfl|rfl|rfl <;> rfl⟩
instance:One Rel:=⟨by rintro w S cs a ⟨_,_,_,_,_,_,_,_,_,rfl,_⟩ u hu;simp at hu;rcases hu with rfl|rfl|rfl|rfl <;> rfl⟩
theorem One.cells {α:Type}[Rep α][One α]{w:World}{S:Nat->Prop}: ∀{xs:List α} {cs:List Value},Cells w S cs xs-> ∀u∈cs,u.oneCell'=true
 | [],cs,h=>by rw[show cs=[] from h];simp
 |x :: xs,cs,h=>by
  obtain ⟨c0,c1,rfl,h0,h1⟩:=h;intro u hu;rcases List.mem_append.1 hu with hu|hu
  ·exact One.one h0 u hu
  ·exact One.cells h1 u hu
structure Elem (P:Program) (t e:TypeId) (size bytes:Nat):Prop where
 und:P.underlying t=some (.slice e)
 info: ∃i z,P.info? e=some i/\i.zero=some z/\i.size=size/\i.bytes=bytes/\z.cells.size=size
 pos:0<size
theorem ni {P:Program}{t e:TypeId}{size bytes:Nat}(z:Value)(h:P.underlying t=some (.slice e))(hi:(P.info? e).map (λi=>(i.zero,i.size,i.bytes))=some (some z,size,bytes))(hz:z.cells.size=size)(hp:0<size):Elem P t e size bytes:=by
 refine ⟨h,?_,hp⟩;cases hp:P.info? e with
 |none=>rw[hp]at hi;cases hi
 |some i=>
  rw[hp]at hi;simp only[Option.map_some,Option.some.injEq,Prod.mk.injEq]at hi;exact ⟨i,z,rfl,hi.1,hi.2.1,hi.2.2,hz⟩
def BS (B:Nat)(O:Nat->Prop)(T:List TypeId)(w:World)(k:Nat):Prop:=(O k/\k<B)\/(B<=k/\ ∃t∈T,dm w t k)
theorem BS.lt {B:Nat}{O:Nat->Prop}{T:List TypeId}{w:World}{k:Nat}(h:BS B O T w k)(hB:B<=w.heap.size):k<w.heap.size:=by
 rcases h with ⟨_,h⟩|⟨_,t,_,h⟩
 ·omega
 ·exact h.lt
theorem BS.kept {B:Nat}{O:Nat->Prop}{T:List TypeId}{w w1:World}{k:Nat}(h:BS B O T w k)(hk:w1.heap[k]?=w.heap[k]?):BS B O T w1 k:=by
 rcases h with h|⟨h,t,ht,c,hc⟩
 ·exact .inl h
 ·exact .inr ⟨h,t,ht,c,hk.trans hc⟩
theorem BS.below {B:Nat}{O:Nat->Prop}{T:List TypeId}{w w1:World}{k:Nat}(h:BS B O T w k)(hB:B<=w.heap.size)(hb:Below w.heap.size w w1):BS B O T w1 k:=h.kept (hb.block k (h.lt hB))
theorem BS.more {B:Nat}{O:Nat->Prop}{T T':List TypeId}{w:World}{k:Nat}(h:BS B O T w k)(ht: ∀t∈T,t∈T'):BS B O T' w k:=by
 rcases h with h|⟨h,t,h1,h2⟩
 ·exact .inl h
 ·exact .inr ⟨h,t,ht t h1,h2⟩
theorem vg {w:World}{base:Nat}{e:TypeId}{size:Nat}{v:Value}{n:Nat}{xs:List Value}(h:w.ownsRow base e size v n xs){g:Nat}(hg:v.ownBlock=some g):base<=g/\dm w e g:=by
 rcases h.2 with ⟨rfl,_⟩|⟨g',cap,cur,rfl,hb,hh,_⟩
 ·cases hg
 ·injection hg with hg;subst hg;exact ⟨hb,cur,hh⟩
theorem CB {w w':World}{base:Nat}{e:TypeId}{size:Nat}{v:Value}{n:Nat}{xs:List Value}(h:w.ownsRow base e size v n xs)(hk: ∀g,v.ownBlock=some g->w'.heap[g]?=w.heap[g]?):w'.ownsRow base e size v n xs:=by
 refine ⟨h.1,?_⟩;rcases h.2 with h2|⟨g,cap,cur,rfl,hg,hh,r⟩
 ·exact .inl h2
 ·exact .inr ⟨g,cap,cur,rfl,hg,by rw[hk g rfl];exact hh,r⟩
structure OL {α:Type} [Rep α] (e:TypeId) (B:Nat) (O:Nat->Prop) (T:List TypeId) (w:World) (v:Value) (xs:List α):Prop where
 own: ∃cs,w.ownsRow B e (Rep.size α) v xs.length cs/\Cells w (BS B O T w) cs xs
 base:B<=w.heap.size
section
variable {α:Type}[Rep α]{e:TypeId}{B:Nat}{O:Nat->Prop}{T:List TypeId}{w w1:World}{v:Value}{xs:List α}
theorem OL.nil (h:B<=w.heap.size):OL (α:=α) e B O T w (.slice none 0 0) []:=⟨⟨[],World.ownsRow_nil _ _ _ _,rfl⟩,h⟩
theorem OL.ty (h:OL e B O T w v xs){g:Nat}(hg:v.ownBlock=some g):B<=g/\dm w e g:=by
 obtain ⟨cs,h1,_⟩:=h.own;exact vg h1 hg
theorem OL.kept (h:OL e B O T w v xs)(hs: ∀k,(BS B O T w k\/v.ownBlock=some k)->w1.heap[k]?=w.heap[k]?)(hsz:w.heap.size<=w1.heap.size):OL e B O T w1 v xs:=by
 obtain ⟨cs,h1,h2⟩:=h.own;exact ⟨⟨cs,CB h1 λg hg=>hs g (.inr hg),(h2.keep λk hk=>hs k (.inl hk)).mono λk hk=>hk.kept (hs k (.inl hk))⟩,Nat.le_trans h.base hsz⟩
theorem OL.below (h:OL e B O T w v xs)(hb:Below w.heap.size w w1):OL e B O T w1 v xs:=
 h.kept (λk hk=>hb.block k (by
  rcases hk with hk|hk
  ·exact hk.lt h.base
  ·exact (h.ty hk).2.lt)) hb.size
theorem OL.grown {row:Option Nat}(h:OL e B O T w v xs)(hg:w.grownBy w1 row)(h1: ∀k,row=some k->v.ownBlock≠some k/\¬BS B O T w k):OL e B O T w1 v xs:=
 h.kept (λk hk=>hg.block k (by
  rcases hk with hk|hk
  ·exact hk.lt h.base
  ·exact (h.ty hk).2.lt) (λq=>by
  rcases hk with hk|hk
  ·exact (h1 k q.symm).2 hk
  ·exact (h1 k q.symm).1 hk)) hg.size
theorem OL.sl (h:OL e B O T w v xs): ∃A c,v=.slice A xs.length c/\Sl w (BS B O (e :: T) w) A xs.length c xs:=by
 obtain ⟨cs,h1,h2⟩:=h.own;obtain ⟨A,c,e1,hs,_⟩:=gP (T:=BS B O (e :: T) w) h1 h2 (λk hk=>hk.more λt ht=>by simp[ht]) rfl (λg hg ht=>.inr ⟨hg,e,by simp,ht⟩);exact ⟨A,c,e1,hs⟩
theorem OL.inn (h:OL e B O T w v xs): ∃A c,v=.slice A xs.length c/\In w A xs.length c xs:=by
 obtain ⟨A,c,h1,h2⟩:=h.sl;exact ⟨A,c,h1,In.of_sl h2 λk hk=>hk.lt h.base⟩
theorem OL.form (h:OL e B O T w v xs): ∃A c,v=.slice A xs.length c:=by
 obtain ⟨A,c,h1,_⟩:=h.sl;exact ⟨A,c,h1⟩
theorem OL.rebase {B0:Nat}(h:OL e B (λ_=>False) T w v xs)(hB:B0<=B):OL e B0 (λ_=>False) T w v xs:=by
 obtain ⟨cs,h1,h2⟩:=h.own;refine ⟨⟨cs,⟨h1.1,?_⟩,h2.mono λk hk=>?_⟩,Nat.le_trans hB h.base⟩
 ·rcases h1.2 with h2|⟨g,cap,cur,rfl,hg,r⟩
  ·exact .inl h2
  ·exact .inr ⟨g,cap,cur,rfl,Nat.le_trans hB hg,r⟩
 ·rcases hk with ⟨hk,_⟩|⟨hk,r⟩
  ·cases hk
  ·exact .inr ⟨Nat.le_trans hB hk,r⟩
theorem OL.types {T':List TypeId}(h:OL e B O T w v xs)(ht: ∀t∈T,t∈T'):OL e B O T' w v xs:=by
 obtain ⟨cs,h1,h2⟩:=h.own;exact ⟨⟨cs,h1,h2.mono λk hk=>hk.more ht⟩,h.base⟩
end
theorem wN (w:World)(arr:Array Value)(e:TypeId)(size m:Nat)(h:arr.size=m*size):Src (w.alloc (.cells arr e)) size (some ⟨w.heap.size,0,none⟩) m arr.toList:=by
 refine ⟨by simpa using h,λ_=>⟨_,0,rfl,λj u hu=>?_⟩⟩;rw[Nat.zero_add,cell_of_row _ w.heap.size j arr e (0,0) (heap_alloc_new w _),<-Array.getElem?_toList];exact hu
section
variable {P:Program}(w:World){α:Type}[Rep α][One α]
theorem kG {o:Oper}{a:Act}{K:Act->World->Prop}{Q:Exit->Act->World->Prop}(s x:Operand)(t:TypeId)(ho:o.op=.call {callee:=.builtin .append,args:= #[s,x],argTypes:= #[t,t]}){e:TypeId}{bytes:Nat}(hE:Elem P t e (Rep.size α) bytes){B:Nat}{O:Nat->Prop}{T:List TypeId}(hT:e∉T){v:Value}{xs:List α}(hown:OL e B O T w v xs)(hs:a.eval s=v)(A:Option Addr)(m c:Nat)(news:List Value)(ys:List α)(hx:a.eval x=.slice A m c)(hA:A=none->m=0)(hr:Src w (Rep.size α) A m news)(hc:Cells w (BS B O T w) news ys)(hm:ys.length=m)(h63:xs.length+m<=maxLen)(hbytes:(xs.length+m)*bytes<=140737488355328)(h: ∀v' w',OL e B O T w' v' (xs++ys)->Below B w w'->w.grownBy w' v.ownBlock->(v'.ownBlock=v.ownBlock\/v'.ownBlock=some w.heap.size)->K (a.put o.dst v') w'):o.wp P a w K Q:=by
 obtain ⟨i,z,hi,hz,hsize,hby,hzs⟩:=hE.info;obtain ⟨cs,h1,h2⟩:=hown.own;refine ow w s x t ho B e i z (Rep.size α) bytes hE.und hi hz hsize hby hzs hE.pos v xs.length cs hs h1 A m c news hx hA hr (One.cells hc) h63 hbytes hown.base λv' w' g1 g2 g3=>?_;refine h v' w' ⟨⟨cs++news,by rw[List.length_append,hm];exact g1,?_⟩,Nat.le_trans hown.base g2.size⟩ ((Below.refl B w).grown g2 hown.base λj q=>(vg h1 q).1) g2 g3;have hk: ∀k,BS B O T w k->w'.heap[k]?=w.heap[k]?:=λk hk=>g2.block k (hk.lt hown.base) λq=>by
  obtain ⟨q1,q2⟩:=vg h1 q.symm;rcases hk with ⟨_,hk⟩|⟨_,t',ht',hk⟩
  ·omega
  ·exact dm.ne q2 hk (λe'=>hT (e'▸ht')) rfl
 exact (Cells.app (hc.keep hk) (h2.keep hk)).mono λk hk'=>hk'.kept (hk k hk')
theorem pG {ops:Array Oper}{rest:List Oper}{o:Oper}{a:Act}{Q:Exit->Act->World->Prop}(hgd:o.guard=none)(s x:Operand)(t:TypeId)(ho:o.op=.call {callee:=.builtin .append,args:= #[s,x],argTypes:= #[t,t]}){e:TypeId}{bytes:Nat}(hE:Elem P t e (Rep.size α) bytes){B:Nat}{O:Nat->Prop}{T:List TypeId}(hT:e∉T){v:Value}{xs:List α}(hown:OL e B O T w v xs)(hs:a.eval s=v)(A:Option Addr)(m c:Nat)(news:List Value)(ys:List α)(hx:a.eval x=.slice A m c)(hA:A=none->m=0)(hr:Src w (Rep.size α) A m news)(hc:Cells w (BS B O T w) news ys)(hm:ys.length=m)(h63:xs.length+m<=maxLen)(hbytes:(xs.length+m)*bytes<=140737488355328)(h: ∀v' w',OL e B O T w' v' (xs++ys)->Below B w w'->w.grownBy w' v.ownBlock->(v'.ownBlock=v.ownBlock\/v'.ownBlock=some w.heap.size)->wpList P ops Q rest (a.put o.dst v') w'):wpList P ops Q (o :: rest) a w:=
 wpList_plain hgd λ_ hK=>kG w s x t ho hE hT hown hs A m c news ys hx hA hr hc hm h63 hbytes λv' w' h2 h3 h4 h5=>hK _ _ (h v' w' h2 h3 h4 h5)
theorem rT {ops:Array Oper}{o:Oper}{a:Act}{K:Act->World->Prop}{Q:Exit->Act->World->Prop}{E:Prop}(hgd:o.guard=none)(s x:Operand)(t:TypeId)(ho:o.op=.call {callee:=.builtin .append,args:= #[s,x],argTypes:= #[t,t]}){e:TypeId}{bytes:Nat}(hE:Elem P t e (Rep.size α) bytes){B:Nat}{O:Nat->Prop}{T:List TypeId}(hT:e∉T){v:Value}{xs:List α}(hown:OL e B O T w v xs)(hs:a.eval s=v)(A:Option Addr)(m c:Nat)(news:List Value)(ys:List α)(hx:a.eval x=.slice A m c)(hA:A=none->m=0)(hr:Src w (Rep.size α) A m news)(hc:Cells w (BS B O T w) news ys)(hm:ys.length=m)(h63:xs.length+m<=maxLen)(hbytes:(xs.length+m)*bytes<=140737488355328)(h: ∀v' w',OL e B O T w' v' (xs++ys)->Below B w w'->w.grownBy w' v.ownBlock->(v'.ownBlock=v.ownBlock\/v'.ownBlock=some w.heap.size)->K (a.put o.dst v') w'):if Region.wanted o (yielded ops a.tmps)=true then Oper.wp P o a w K Q else E:=by
 have hw:Region.wanted o (yielded ops a.tmps)=true:=by simp[Region.wanted,hgd]
 rw[if_pos hw];exact kG w s x t ho hE hT hown hs A m c news ys hx hA hr hc hm h63 hbytes h
theorem bF {ops:Array Oper}{rest:List Oper}{o:Oper}{a:Act}{Q:Exit->Act->World->Prop}(hgd:o.guard=none)(s x:Operand)(t:TypeId)(ho:o.op=.call {callee:=.builtin .append,args:= #[s,x],argTypes:= #[t,t]}){e:TypeId}{bytes:Nat}(hE:Elem P t e (Rep.size α) bytes){B:Nat}{O:Nat->Prop}{T:List TypeId}(hT:e∉T){v:Value}{xs:List α}(w0:World)(arr:Array Value)(hw:w=w0.alloc (.cells arr e))(hown:OL e B O T w0 v xs)(hs:a.eval s=v)(hx:a.eval x=.slice (some ⟨w0.heap.size,0,none⟩) 1 1)(y:α)(hr:Rep.rd w0 (BS B O T w0) arr.toList y)(h63:xs.length+1<=maxLen)(hbytes:(xs.length+1)*bytes<=140737488355328)(h: ∀v' w',OL e B O T w' v' (xs++[y])->Below B w0 w'->w0.grownBy w' v.ownBlock->(v'.ownBlock=v.ownBlock\/ ∃k,v'.ownBlock=some k/\w0.heap.size<=k)->wpList P ops Q rest (a.put o.dst v') w'):wpList P ops Q (o :: rest) a w:=by
 subst hw;have hk: ∀k,BS B O T w0 k->(w0.alloc (.cells arr e)).heap[k]?=w0.heap[k]?:=λk hk=>ae.block k (hk.lt hown.base);refine pG _ hgd s x t ho hE hT (hown.below ae) hs _ 1 1 arr.toList [y] hx (by intro h;cases h) (wN w0 arr e _ 1 (by rw[Nat.one_mul];simpa using Rep.len hr)) ((Cells.one (Rep.keep hk hr)).mono λk q=>q.kept (hk k q)) rfl h63 hbytes λv' w' h1 h2 h3 h4=>?_;have hb:Below B w0 (w0.alloc (.cells arr e)):=(Below.refl B w0).alloc hown.base _;refine h v' w' h1 (hb.trans h2) ?_ (h4.imp id λq=>⟨_,q,by simp⟩);exact (World.grownBy_alloc w0 _ v.ownBlock).trans h3
theorem Eg {ops:Array Oper}{o:Oper}{a:Act}{K:Act->World->Prop}{Q:Exit->Act->World->Prop}{E:Prop}(hgd:o.guard=none)(s x:Operand)(t:TypeId)(ho:o.op=.call {callee:=.builtin .append,args:= #[s,x],argTypes:= #[t,t]}){e:TypeId}{bytes:Nat}(hE:Elem P t e (Rep.size α) bytes){B:Nat}{O:Nat->Prop}{T:List TypeId}(hT:e∉T){v:Value}{xs:List α}(w0:World)(arr:Array Value)(hw:w=w0.alloc (.cells arr e))(hown:OL e B O T w0 v xs)(hs:a.eval s=v)(hx:a.eval x=.slice (some ⟨w0.heap.size,0,none⟩) 1 1)(y:α)(hr:Rep.rd w0 (BS B O T w0) arr.toList y)(h63:xs.length+1<=maxLen)(hbytes:(xs.length+1)*bytes<=140737488355328)(h: ∀v' w',OL e B O T w' v' (xs++[y])->Below B w0 w'->w0.grownBy w' v.ownBlock->(v'.ownBlock=v.ownBlock\/ ∃k,v'.ownBlock=some k/\w0.heap.size<=k)->K (a.put o.dst v') w'):if Region.wanted o (yielded ops a.tmps)=true then Oper.wp P o a w K Q else E:=by
 subst hw;have hk: ∀k,BS B O T w0 k->(w0.alloc (.cells arr e)).heap[k]?=w0.heap[k]?:=λk hk=>ae.block k (hk.lt hown.base);refine rT _ hgd s x t ho hE hT (hown.below ae) hs _ 1 1 arr.toList [y] hx (by intro h;cases h) (wN w0 arr e _ 1 (by rw[Nat.one_mul];simpa using Rep.len hr)) ((Cells.one (Rep.keep hk hr)).mono λk q=>q.kept (hk k q)) rfl h63 hbytes λv' w' h1 h2 h3 h4=>?_;have hb:Below B w0 (w0.alloc (.cells arr e)):=(Below.refl B w0).alloc hown.base _;refine h v' w' h1 (hb.trans h2) ?_ (h4.imp id λq=>⟨_,q,by simp⟩);exact (World.grownBy_alloc w0 _ v.ownBlock).trans h3
end
theorem bg {α:Type}{xs:List α}{k:Nat}{x:α}{l:List α}(h:xs.drop k=x :: l):xs.take (k+1)=xs.take k++[x]:=by
 rw[List.take_add_one,(bX h).1];rfl
theorem aH {α:Type}{xs:List α}{k:Nat}{x:α}{l:List α}(h:xs.drop k=x :: l):x∈xs:=List.mem_of_mem_drop (i:=k) (by rw[h];simp)
theorem iZ {α:Type}[Rep α]{w:World}{e g n:Nat}{arr:Array Value}{xs:List α}(h:w.heap[g]?=some (.cells arr e (0,0)))(hc:Cells w (λk=>k<w.heap.size) arr.toList xs)(hn:xs.length=n)(hm:n<=maxLen):
  In w (some ⟨g,0,none⟩) n n xs:=by
 have hl:=hc.len;have hown:w.ownsRow 0 e (Rep.size α) (.slice (some ⟨g,0,none⟩) n n) n arr.toList:=by
  refine ⟨by rw[hl,hn],.inr ⟨g,n,arr,rfl,Nat.zero_le _,h,Nat.le_refl _,hm,?_,?_⟩⟩
  ·rw[<-hn];simpa using hl
  ·rw[List.take_of_length_le];rw[hl,hn];exact Nat.le_refl _
 obtain ⟨A,c,e1,hs,_⟩:=gP (T:=λk=>k<w.heap.size) hown hc (λ_ h=>h) hn (λg _ hg=>hg.lt);injection e1 with e1 _ e3;subst e1 e3;exact hs
theorem vY {w:World}{g t:Nat}{arr:Array Value}(h:w.heap[g]?=some (.cells arr t (0,0))): ∀j v,arr.toList[j]?=some v->w.cell? ⟨g,j,none⟩=some v:=by
 intro j v hv;rw[cell_of_row w g j arr t (0,0) h,<-Array.getElem?_toList];exact hv
theorem Fy (w:World)(o o':Obj):((w.alloc o).alloc o').heap[w.heap.size]?=some o:=(ae.block _ (by simp)).trans (heap_alloc_new w o)
end Go.Proofs.YtopjjlmfilgngaaGreatDoor
