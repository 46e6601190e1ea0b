/-
  Slices that a call makes by append: their cells, element by element; append as one step of a walk, whatever the source (nil too). No program is in sight. Lists that a call builds by append, of any element: their row is the call's own, what the elements refer to lies in blocks from before the call or in new blocks of given types. No program is in sight. A slice that a call has built of given cells, and a struct of given cells, read as lists and structs. No program is in sight.
-/
import Derived.Deep.AppendLies
import Derived.Deep.RegionLaw
import Derived.Test.YthnelebakkggjaaGreatDoorGac
namespace Go.Proofs.YthnelebakkggjaaGreatDoor
open Go.RowKit
set_option linter.unusedSimpArgs false
set_option linter.unusedVariables false
def Cells {α:Type}[Rep α](w:World)(S:Nat->Prop):List Value->List α->Prop
 |cs,[]=>cs=[]
 |cs,x::xs=> ∃c0 c1,cs=c0++c1/\Rep.rd w S c0 x/\Cells w S c1 xs
section
variable {α:Type}[Rep α]{w w':World}{S T:Nat->Prop}
theorem Cells.len: ∀{xs:List α} {a:List Value},Cells w S a xs->a.length=xs.length*Rep.size α
 | [],_,h=>by simp[show _=[] from h]
 |x::xs,_,⟨c0,c1,rfl,h0,h1⟩=>by
  have:=Cells.len h1;rw[List.length_append,Rep.len h0,this,List.length_cons,Nat.add_mul];omega
theorem Cells.keep (hs:Same S w w'): ∀{xs:List α} {a:List Value},Cells w S a xs->Cells w' S a xs
 | [],_,h=>h
 |x::xs,_,⟨c0,c1,e,h0,h1⟩=>⟨c0,c1,e,Rep.keep hs h0,Cells.keep hs h1⟩
theorem Cells.mono (hs: ∀k,S k->T k): ∀{xs:List α} {a:List Value},Cells w S a xs->Cells w T a xs
 | [],_,h=>h
 |x::xs,_,⟨c0,c1,e,h0,h1⟩=>⟨c0,c1,e,Rep.mono hs h0,Cells.mono hs h1⟩
theorem Cells.app {d:List α}{a:List Value}(c:Cells w S a d): ∀{xs:List α} {b:List Value},Cells w S b xs->Cells w S (b++a) (xs++d)
 | [],_,h=>by rw[show _=[] from h];exact c
 |x::xs,_,⟨c0,c1,e,h0,h1⟩=>⟨c0,c1++a,by rw[e,List.append_assoc],h0,Cells.app c h1⟩
theorem Cells.one {x:α}{a:List Value}(h:Rep.rd w S a x):Cells w S a [x]:=⟨a,[],by simp,h,rfl⟩
theorem Cells.get: ∀{xs:List α} {b:List Value},Cells w S b xs-> ∀i,(h:i<xs.length)-> ∃c,Rep.rd w S c xs[i]/\ ∀j,(a:j<c.length)->b[i*Rep.size α+j]?=some c[j]
 | [],_,_,i,h=>absurd h II
 |x::xs,_,⟨c0,c1,e,h0,h1⟩,0,_=>⟨c0,h0,λj a=>by
   rw[e,Nat.zero_mul,Nat.zero_add,List.getElem?_append_left a,List.getElem?_eq_getElem a]⟩
 |x::xs,_,⟨c0,c1,e,h0,h1⟩,i+1,h=>by
   obtain⟨c,g,f⟩:=Cells.get h1 i (by simpa using h);refine⟨c,by simpa using g,λj a=>?_⟩;have d:=Rep.len h0;rw[e,List.getElem?_append_right (by rw[d,Nat.add_mul];omega),d];rw[show(i+1)*Rep.size α+j-Rep.size α=i*Rep.size α+j from by rw[Nat.add_mul];omega];exact f j a
def Src (w:World)(size:Nat)(A:Option Addr)(m:Nat)(news:List Value):Prop:=news.length=m*size/\(0<m-> ∃b off,A=some ⟨b,off,none⟩/\ ∀j u,news[j]?=some u->w.cell? ⟨b,off+j,none⟩=some u)
theorem jv (b off j:Nat):(⟨b,off,none⟩:Addr).add j=⟨b,off+j,none⟩:=by
 unfold Addr.add;split
 ·rename_i h;rw[h];rfl
 ·rfl
theorem Cw {b:Nat}: ∀{xs:List α} {off:Nat},(∀i,(h:i<xs.length)->At w S b (off+i*Rep.size α) xs[i])-> ∃d,Cells w S d xs/\ ∀j u,d[j]?=some u->w.cell? ⟨b,off+j,none⟩=some u
 | [],off,_=>⟨[],rfl,λj u h=>by simp at h⟩
 |x::xs,off,h=>by
  obtain⟨c0,e,k⟩:=h 0 II;obtain⟨c1,f,g⟩:=Cw (xs:=xs) (off:=off+Rep.size α) λi hi=>by
   have:=h (i+1) (by simpa using hi);rw[show off+Rep.size α+i*Rep.size α=off+(i+1)*Rep.size α from by rw[Nat.add_mul];omega];simpa using this
  refine⟨c0++c1,⟨c0,c1,rfl,by simpa using e,f⟩,λj u a=>?_⟩;have l:=Rep.len e;by_cases c:j<c0.length
  ·rw[List.getElem?_append_left c,List.getElem?_eq_getElem c]at a;injection a with a;have:=k j c;rw[a]at this;simpa using this
  ·rw[List.getElem?_append_right Ho,l]at a;have:=g _ u a;rw[show off+Rep.size α+(j-Rep.size α)=off+j from by omega]at this;exact this
theorem Sl.cells {A:Option Addr}{n c:Nat}{xs:List α}(h:Sl w S A n c xs): ∃cs,Cells w S cs xs/\Src w (Rep.size α) A n cs:=by
 rcases Nat.eq_zero_or_pos n with a|a
 ·have:xs=[]:=List.eq_nil_of_length_eq_zero (by rw[h.1,a]);subst this;exact⟨[],rfl,by simp[a],λg=>by omega⟩
 ·obtain⟨b,off,e,_,hi⟩:=h.2.2.2.2 a;obtain⟨cs,d,f⟩:=Cw hi;exact⟨cs,d,by rw[d.len,h.1],λ_=>⟨b,off,e,f⟩⟩
theorem jZ {base:Nat}{e:TypeId}{v:Value}{n:Nat}{b:List Value}{xs:List α}(x:w.ownsRow base e (Rep.size α) v n b)(p:Cells w S b xs)(m: ∀k,S k->T k)(l:xs.length=n)(o: ∀g,base<=g->jQ w e g->T g): ∃A c,v=.slice A n c/\Sl w T A n c xs/\(v.ownBlock=none->n=0):=by
 rcases x.2 with ⟨rfl,rfl⟩|⟨g,cap,d,rfl,r,f,u,t,B,z⟩
 ·exact⟨none,0,rfl,⟨l,Nat.le_refl _,Ho,λ_=>rfl,λh=>absurd h Ho⟩,λ_=>rfl⟩
 ·refine⟨some ⟨g,0,none⟩,cap,rfl,⟨l,u,by unfold maxLen at t;omega,(λh=>by cases h),λ_=>⟨g,0,rfl,o g r ⟨d,f⟩,λi hi=>?_⟩⟩,(λh=>by cases h)⟩;obtain⟨c,y,q⟩:=p.get i hi;refine⟨c,Rep.mono m y,λj s=>?_⟩;have a:=q j s;rw[<-z,List.getElem?_take]at a
  split at a
  ·rw[cell_of_row w g _ d e (0,0) f,Nat.zero_add,<-Array.getElem?_toList];exact a
  ·cases a
end
section
variable {P:Program}(w:World)
theorem xQ (base:Nat)(t ty e:TypeId)(i:TypeInfo)(size:Nat)(a:P.underlying t=some (.slice e))(hi:P.info? e=some i)(v:Value)(n:Nat)(xs:List Value)(d:w.ownsRow base e size v n xs)(c:Nat):(Builtin.append_ #[t,t] ty #[v,.slice none 0 c]).run P w=.ok v w:=by
 rcases d.2 with ⟨rfl,rfl⟩|⟨g,cap,f,rfl,_,_,b,_⟩
 ·simp[Builtin.append_,run_underlying a,sizeOf,typeInfo,hi,Builtin.lenOf,Builtin.firstCells]
 ·simp[Builtin.append_,run_underlying a,sizeOf,typeInfo,hi,Builtin.lenOf,Builtin.firstCells,b,storeCells]
theorem zz (base:Nat)(t ty e:TypeId)(i:TypeInfo)(z:Value)(size bytes:Nat)(o:P.underlying t=some (.slice e))(hi:P.info? e=some i)(K:i.zero=some z)(I:i.size=size)(D:i.bytes=bytes)(L:z.cells.size=size)(J:0<size)(v:Value)(n:Nat)(xs:List Value)(k:w.ownsRow base e size v n xs)(A:Option Addr)(m c:Nat)(news:List Value)(B:A=none->m=0)(M: ∀a,A=some a->a.spot=none)(f:Src w size A m news)(q: ∀u∈news,u.oneCell'=true)(y:n+m<=maxLen)(E:(n+m)*bytes<=140737488355328)(C:base<=w.heap.size):
  ∃d w',(Builtin.append_ #[t,t] ty #[v,.slice A m c]).run P w=.ok d w'/\w'.ownsRow base e size d (n+m) (xs++news)/\w.grownBy w' v.ownBlock/\
   (d.ownBlock=v.ownBlock\/d.ownBlock=some w.heap.size):=by
 cases A with
 |none=>
  obtain rfl:=B rfl;have h:news=[]:=List.eq_nil_of_length_eq_zero (by simpa using f.1);subst h;exact⟨v,w,xQ w base t ty e i size o hi v n xs k c,by simpa using k,World.grownBy.refl w _,.inl rfl⟩
 |some l=>
  have G: ∀j u,news[j]?=some u->w.cell? (l.add j)=some u:=by
   intro j u p;rcases Nat.eq_zero_or_pos m with g|g
   ·subst g;have h:news=[]:=List.eq_nil_of_length_eq_zero (by simpa using f.1);subst h;simp at p
   ·obtain⟨b,off,e,F⟩:=f.2 g;injection e with e;subst e;rw[jv];exact F j u p
  obtain⟨d,w',H,r,s,_,x⟩:=run_append_own_at (P:=P) w base t ty e i z size bytes o hi K I D L J v n xs k l m c news f.1 G q y E C;exact⟨d,w',H,r,s,x⟩
theorem qQ {o:Oper}{a:Act}{K:Act->World->Prop}{Q:Exit->Act->World->Prop}(s x:Operand)(t:TypeId)(U:o.op=.call {callee:=.builtin .append,args:= #[s,x],argTypes:= #[t,t]})(base:Nat)(e:TypeId)(i:TypeInfo)(z:Value)(size bytes:Nat)(H:P.underlying t=some (.slice e))(hi:P.info? e=some i)(J:i.zero=some z)(F:i.size=size)(C:i.bytes=bytes)(L:z.cells.size=size)(G:0<size)(v:Value)(n:Nat)(xs:List Value)(hs:a.eval s=v)(E:w.ownsRow base e size v n xs)(A:Option Addr)(m c:Nat)(news:List Value)(V:a.eval x=.slice A m c)(O:A=none->m=0)(f:Src w size A m news)(r: ∀u∈news,u.oneCell'=true)(y:n+m<=maxLen)(D:(n+m)*bytes<=140737488355328)(B:base<=w.heap.size)(h: ∀d w',w'.ownsRow base e size d (n+m) (xs++news)->w.grownBy w' v.ownBlock->(d.ownBlock=v.ownBlock\/d.ownBlock=some w.heap.size)->K (a.put o.dst d) w'):o.wp P a w K Q:=by
 have key: ∃d w',(Builtin.append_ #[t,t] o.type #[v,.slice A m c]).run P w=.ok d w'/\w'.ownsRow base e size d (n+m) (xs++news)/\w.grownBy w' v.ownBlock/\(d.ownBlock=v.ownBlock\/d.ownBlock=some w.heap.size):=by
  cases A with
  |none=>exact zz w base t o.type e i z size bytes H hi J F C L G v n xs E none m c news O (λa h=>by cases h) f r y D B
  |some q=>
   have S: ∀j u,news[j]?=some u->w.cell? (q.add j)=some u:=by
    intro j u I;rcases Nat.eq_zero_or_pos m with g|g
    ·subst g;have T:news=[]:=List.eq_nil_of_length_eq_zero (by simpa using f.1);subst T;simp at I
    ·obtain⟨b,off,e,R⟩:=f.2 g;injection e with e;subst e;rw[jv];exact R j u I
   obtain⟨d,w',p,k,l,_,N⟩:=run_append_own_at (P:=P) w base t o.type e i z size bytes H hi J F C L G v n xs E q m c news f.1 S r y D B;exact⟨d,w',p,k,l,N⟩
 obtain⟨d,w',p,k,l,M⟩:=key;unfold Oper.wp execOp;simp only[U,resolve,invoke,builtin,Sem.run_bind,Sem.run_pure,Result.andThen_ok,List.map_toArray,List.map_cons,List.map_nil,hs,V,p];exact h d w' k l M
theorem lI {d:Array Oper}{rest:List Oper}{o:Oper}{a:Act}{Q:Exit->Act->World->Prop}(C:o.guard=none)(s x:Operand)(t:TypeId)(D:o.op=.call {callee:=.builtin .append,args:= #[s,x],argTypes:= #[t,t]})(base:Nat)(e:TypeId)(i:TypeInfo)(z:Value)(size bytes:Nat)(I:P.underlying t=some (.slice e))(hi:P.info? e=some i)(K:i.zero=some z)(G:i.size=size)(y:i.bytes=bytes)(L:z.cells.size=size)(H:0<size)(v:Value)(n:Nat)(xs:List Value)(hs:a.eval s=v)(E:w.ownsRow base e size v n xs)(A:Option Addr)(m c:Nat)(news:List Value)(J:a.eval x=.slice A m c)(p:A=none->m=0)(F:Src w size A m news)(f: ∀u∈news,u.oneCell'=true)(l:n+m<=maxLen)(B:(n+m)*bytes<=140737488355328)(r:base<=w.heap.size)(h: ∀b w',w'.ownsRow base e size b (n+m) (xs++news)->w.grownBy w' v.ownBlock->(b.ownBlock=v.ownBlock\/b.ownBlock=some w.heap.size)->wpList P d Q rest (a.put o.dst b) w'):wpList P d Q (o::rest) a w:=
 wpList_plain C λ_ q=>qQ w s x t D base e i z size bytes I hi K G y L H v n xs hs E A m c news J p F f l B r λb w' g j k=>q _ _ (h b w' g j k)
theorem iL {d:Array Oper}{o:Oper}{a:Act}{K:Act->World->Prop}{Q:Exit->Act->World->Prop}{E:Prop}(q:o.guard=none)(s x:Operand)(t:TypeId)(r:o.op=.call {callee:=.builtin .append,args:= #[s,x],argTypes:= #[t,t]})(base:Nat)(e:TypeId)(i:TypeInfo)(z:Value)(size bytes:Nat)(F:P.underlying t=some (.slice e))(hi:P.info? e=some i)(H:i.zero=some z)(C:i.size=size)(l:i.bytes=bytes)(I:z.cells.size=size)(D:0<size)(v:Value)(n:Nat)(xs:List Value)(hs:a.eval s=v)(y:w.ownsRow base e size v n xs)(A:Option Addr)(m c:Nat)(news:List Value)(G:a.eval x=.slice A m c)(j:A=none->m=0)(B:Src w size A m news)(f: ∀u∈news,u.oneCell'=true)(g:n+m<=maxLen)(p:(n+m)*bytes<=140737488355328)(k:base<=w.heap.size)(h: ∀b w',w'.ownsRow base e size b (n+m) (xs++news)->w.grownBy w' v.ownBlock->(b.ownBlock=v.ownBlock\/b.ownBlock=some w.heap.size)->K (a.put o.dst b) w'):
  if Region.wanted o (yielded d a.tmps)=true then Oper.wp P o a w K Q else E:=by
 have hw:Region.wanted o (yielded d a.tmps)=true:=by simp[Region.wanted,q]
 rw[if_pos hw];exact qQ w s x t r base e i z size bytes F hi H C l I D v n xs hs y A m c news G j B f g p k h
end
class One (α:Type) [Rep α]:Prop where
 one: ∀{w:World} {S:Nat->Prop} {cs:List Value} {a:α},Rep.rd w S cs a-> ∀u∈cs,u.oneCell'=true
instance:One Int:=⟨by rintro w S cs a ⟨rfl,_⟩ u hu;simp at hu;subst hu;rfl⟩
instance:One Bool:=⟨by rintro w S cs a rfl u hu;simp at hu;subst hu;rfl⟩
instance:One ByteArray:=⟨by rintro w S cs a ⟨rfl,_⟩ u hu;simp at hu;subst hu;rfl⟩
instance {α:Type} [Rep α]:One (List α):=⟨by rintro w S cs a ⟨A,n,c,rfl,_⟩ u hu;simp at hu;subst hu;rfl⟩
instance:One Val:=⟨by rintro w S cs a ⟨rfl,_⟩ u hu;simp[Val.cells]at hu;rcases hu with rfl|rfl|rfl<;>rfl⟩
instance:One Col:=⟨by rintro w S cs a ⟨rfl,_⟩ u hu;simp[Col.cells]at hu;rcases hu with rfl|rfl|rfl<;>rfl⟩
instance:One Shift:=⟨by rintro w S cs a ⟨rfl,_⟩ u hu;simp[Shift.cells]at hu;rcases hu with rfl|rfl<;>rfl⟩
instance:One Node:=⟨by rintro w S cs a ⟨rfl,_⟩ u hu;simp[Node.cells]at hu;rcases hu with rfl|rfl|rfl|rfl|rfl|rfl<;>rfl⟩
instance:One Ent:=⟨by rintro w S cs a ⟨A,n,c,rfl,_⟩ u hu;simp at hu;rcases hu with rfl|rfl<;>rfl⟩
instance:One Zone:=⟨by rintro w S cs a ⟨A,n,c,rfl,_⟩ u hu;simp at hu;rcases hu with rfl|rfl|rfl<;>rfl⟩
instance:One Rel:=⟨by rintro w S cs a ⟨_,_,_,_,_,_,_,_,_,rfl,_⟩ u hu;simp at hu;rcases hu with rfl|rfl|rfl|rfl<;>rfl⟩
theorem One.cells {α:Type}[Rep α][One α]{w:World}{S:Nat->Prop}: ∀{xs:List α} {cs:List Value},Cells w S cs xs-> ∀u∈cs,u.oneCell'=true
 | [],cs,h=>by rw[show cs=[] from h];simp
 |x::xs,cs,h=>by
  obtain⟨c0,c1,rfl,b,c⟩:=h;intro u a;rcases List.mem_append.1 a with a|a
  ·exact One.one b u a
  ·exact One.cells c u a
structure Elem (P:Program) (t e:TypeId) (size bytes:Nat):Prop where
 und:P.underlying t=some (.slice e)
 info: ∃i z,P.info? e=some i/\i.zero=some z/\i.size=size/\i.bytes=bytes/\z.cells.size=size
 pos:0<size
theorem BJ {P:Program}{t e:TypeId}{size bytes:Nat}(z:Value)(h:P.underlying t=some (.slice e))(hi:(P.info? e).map (λi=>(i.zero,i.size,i.bytes))=some (some z,size,bytes))(b:z.cells.size=size)(a:0<size):Elem P t e size bytes:=by
 refine⟨h,?_,a⟩;cases a:P.info? e with
 |none=>rw[a]at hi;cases hi
 |some i=>
  rw[a]at hi;simp only[Option.map_some,Option.some.injEq,Prod.mk.injEq]at hi;exact⟨i,z,rfl,hi.1,hi.2.1,hi.2.2,b⟩
def BS (B:Nat)(O:Nat->Prop)(T:List TypeId)(w:World)(k:Nat):Prop:=(O k/\k<B)\/(B<=k/\ ∃t∈T,jQ w t k)
theorem BS.lt {B:Nat}{O:Nat->Prop}{T:List TypeId}{w:World}{k:Nat}(h:BS B O T w k)(a:B<=w.heap.size):k<w.heap.size:=by
 rcases h with ⟨_,h⟩|⟨_,t,_,h⟩
 ·omega
 ·exact h.lt
theorem BS.kept {B:Nat}{O:Nat->Prop}{T:List TypeId}{w a:World}{k:Nat}(h:BS B O T w k)(d:a.heap[k]?=w.heap[k]?):BS B O T a k:=by
 rcases h with h|⟨h,t,e,c,b⟩
 ·exact .inl h
 ·exact .inr ⟨h,t,e,c,d.trans b⟩
theorem BS.b {B:Nat}{O:Nat->Prop}{T:List TypeId}{w a:World}{k:Nat}(h:BS B O T w k)(c:B<=w.heap.size)(hb:Below w.heap.size w a):BS B O T a k:=h.kept (hb.block k (h.lt c))
theorem BS.more {B:Nat}{O:Nat->Prop}{T a:List TypeId}{w:World}{k:Nat}(h:BS B O T w k)(d: ∀t∈T,t∈a):BS B O a w k:=by
 rcases h with h|⟨h,t,b,c⟩
 ·exact .inl h
 ·exact .inr ⟨h,t,d t b,c⟩
theorem vS {w:World}{base:Nat}{e:TypeId}{size:Nat}{v:Value}{n:Nat}{xs:List Value}(h:w.ownsRow base e size v n xs){g:Nat}(a:v.ownBlock=some g):base<=g/\jQ w e g:=by
 rcases h.2 with ⟨rfl,_⟩|⟨d,cap,b,rfl,hb,c,_⟩
 ·cases a
 ·injection a with a;subst a;exact⟨hb,b,c⟩
theorem Bj {w w':World}{base:Nat}{e:TypeId}{size:Nat}{v:Value}{n:Nat}{xs:List Value}(h:w.ownsRow base e size v n xs)(f: ∀g,v.ownBlock=some g->w'.heap[g]?=w.heap[g]?):w'.ownsRow base e size v n xs:=by
 refine⟨h.1,?_⟩;rcases h.2 with b|⟨g,cap,a,rfl,c,d,r⟩
 ·exact .inl b
 ·exact .inr ⟨g,cap,a,rfl,c,by rw[f g rfl];exact d,r⟩
structure OL {α:Type} [Rep α] (e:TypeId) (B:Nat) (O:Nat->Prop) (T:List TypeId) (w:World) (v:Value) (xs:List α):Prop where
 own: ∃cs,w.ownsRow B e (Rep.size α) v xs.length cs/\Cells w (BS B O T w) cs xs
 base:B<=w.heap.size
section
variable {α:Type}[Rep α]{e:TypeId}{B:Nat}{O:Nat->Prop}{T:List TypeId}{w a:World}{v:Value}{xs:List α}
theorem OL.nil (h:B<=w.heap.size):OL (α:=α) e B O T w (.slice none 0 0) []:=⟨⟨[],World.ownsRow_nil _ _ _ _,rfl⟩,h⟩
theorem OL.ty (h:OL e B O T w v xs){g:Nat}(c:v.ownBlock=some g):B<=g/\jQ w e g:=by
 obtain⟨d,b,_⟩:=h.own;exact vS b c
theorem OL.kept (h:OL e B O T w v xs)(hs: ∀k,(BS B O T w k\/v.ownBlock=some k)->a.heap[k]?=w.heap[k]?)(j:w.heap.size<=a.heap.size):OL e B O T a v xs:=by
 obtain⟨c,d,f⟩:=h.own;exact⟨⟨c,Bj d λg i=>hs g (.inr i),(f.keep λk b=>hs k (.inl b)).mono λk b=>b.kept (hs k (.inl b))⟩,Nat.le_trans h.base j⟩
theorem OL.b (h:OL e B O T w v xs)(hb:Below w.heap.size w a):OL e B O T a v xs:=
 h.kept (λk c=>hb.block k (by
  rcases c with c|c
  ·exact c.lt h.base
  ·exact(h.ty c).2.lt)) hb.size
theorem OL.grown {row:Option Nat}(h:OL e B O T w v xs)(d:w.grownBy a row)(c: ∀k,row=some k->v.ownBlock≠some k/\¬BS B O T w k):OL e B O T a v xs:=
 h.kept (λk b=>d.block k (by
  rcases b with b|b
  ·exact b.lt h.base
  ·exact(h.ty b).2.lt) (λq=>by
  rcases b with b|b
  ·exact(c k q.symm).2 b
  ·exact(c k q.symm).1 b)) d.size
theorem OL.grownN {gb:Nat}(h:OL e B O T w v xs)(d:w.grownBy a (some gb))(c:¬O gb)(f:gb<B):OL e B O T a v xs:=
 h.grown d λk b=>by
  injection b with b;subst b;exact⟨λq=>by have:=(h.ty q).1;omega,λq=>by rcases q with ⟨q,_⟩|⟨q,_⟩;exact c q;omega⟩
theorem OL.sl (h:OL e B O T w v xs): ∃A c,v=.slice A xs.length c/\Sl w (BS B O (e::T) w) A xs.length c xs:=by
 obtain⟨m,f,i⟩:=h.own;obtain⟨A,c,d,hs,_⟩:=jZ (T:=BS B O (e::T) w) f i (λk l=>l.more λt b=>by simp[b]) rfl (λg j b=>.inr ⟨j,e,by simp,b⟩);exact⟨A,c,d,hs⟩
theorem OL.inn (h:OL e B O T w v xs): ∃A c,v=.slice A xs.length c/\In w A xs.length c xs:=by
 obtain⟨A,c,b,d⟩:=h.sl;exact⟨A,c,b,In.of_sl d λk f=>f.lt h.base⟩
theorem OL.form (h:OL e B O T w v xs): ∃A c,v=.slice A xs.length c:=by
 obtain⟨A,c,b,_⟩:=h.sl;exact⟨A,c,b⟩
theorem OL.rebase {f:Nat}(h:OL e B (λ_=>False) T w v xs)(d:f<=B):OL e f (λ_=>False) T w v xs:=by
 obtain⟨j,i,c⟩:=h.own;refine⟨⟨j,⟨i.1,?_⟩,c.mono λk b=>?_⟩,Nat.le_trans d h.base⟩
 ·rcases i.2 with c|⟨g,cap,l,rfl,m,r⟩
  ·exact .inl c
  ·exact .inr ⟨g,cap,l,rfl,Nat.le_trans d m,r⟩
 ·rcases b with ⟨b,_⟩|⟨b,r⟩
  ·cases b
  ·exact .inr ⟨Nat.le_trans d b,r⟩
theorem OL.types {T':List TypeId}(h:OL e B O T w v xs)(g: ∀t∈T,t∈T'):OL e B O T' w v xs:=by
 obtain⟨b,c,d⟩:=h.own;exact⟨⟨b,c,d.mono λk f=>f.more g⟩,h.base⟩
end
theorem xe (w:World)(arr:Array Value)(e:TypeId)(size m:Nat)(h:arr.size=m*size):Src (w.alloc (.cells arr e)) size (some ⟨w.heap.size,0,none⟩) m arr.toList:=by
 refine⟨by simpa using h,λ_=>⟨_,0,rfl,λj u a=>?_⟩⟩;rw[Nat.zero_add,cell_of_row _ w.heap.size j arr e (0,0) (heap_alloc_new w _),<-Array.getElem?_toList];exact a
section
variable {P:Program}(w:World){α:Type}[Rep α][One α]
theorem wB {o:Oper}{a:Act}{K:Act->World->Prop}{Q:Exit->Act->World->Prop}(s x:Operand)(t:TypeId)(J:o.op=.call {callee:=.builtin .append,args:= #[s,x],argTypes:= #[t,t]}){e:TypeId}{bytes:Nat}(l:Elem P t e (Rep.size α) bytes){B:Nat}{O:Nat->Prop}{T:List TypeId}(F:e∉T){v:Value}{xs:List α}(f:OL e B O T w v xs)(hs:a.eval s=v)(A:Option Addr)(m c:Nat)(news:List Value)(n:List α)(R:a.eval x=.slice A m c)(E:A=none->m=0)(L:Src w (Rep.size α) A m news)(r:Cells w (BS B O T w) news n)(I:n.length=m)(D:xs.length+m<=maxLen)(H:(xs.length+m)*bytes<=140737488355328)(h: ∀d w',OL e B O T w' d (xs++n)->Below B w w'->w.grownBy w' v.ownBlock->(d.ownBlock=v.ownBlock\/d.ownBlock=some w.heap.size)->K (a.put o.dst d) w'):o.wp P a w K Q:=by
 obtain⟨i,z,hi,S,M,G,U⟩:=l.info;obtain⟨p,g,C⟩:=f.own;refine qQ w s x t J B e i z (Rep.size α) bytes l.und hi S M G U l.pos v xs.length p hs g A m c news R E L (One.cells r) D H f.base λd w' g1 g2 g3=>?_;refine h d w' ⟨⟨p++news,by rw[List.length_append,I];exact g1,?_⟩,Nat.le_trans f.base g2.size⟩ ((Below.refl B w).grown g2 f.base λj q=>(vS g q).1) g2 g3;have b: ∀k,BS B O T w k->w'.heap[k]?=w.heap[k]?:=λk b=>g2.block k (b.lt f.base) λq=>by
  obtain⟨W,V⟩:=vS g q.symm;rcases b with ⟨_,b⟩|⟨_,X,N,b⟩
  ·omega
  ·exact jQ.ne V b (λy=>F (y▸N)) rfl
 exact(Cells.app (r.keep b) (C.keep b)).mono λk u=>u.kept (b k u)
theorem ow {f:Array Oper}{rest:List Oper}{o:Oper}{a:Act}{Q:Exit->Act->World->Prop}(z:o.guard=none)(s x:Operand)(t:TypeId)(D:o.op=.call {callee:=.builtin .append,args:= #[s,x],argTypes:= #[t,t]}){e:TypeId}{bytes:Nat}(p:Elem P t e (Rep.size α) bytes){B:Nat}{O:Nat->Prop}{T:List TypeId}(r:e∉T){v:Value}{xs:List α}(E:OL e B O T w v xs)(hs:a.eval s=v)(A:Option Addr)(m c:Nat)(news:List Value)(d:List α)(G:a.eval x=.slice A m c)(n:A=none->m=0)(F:Src w (Rep.size α) A m news)(y:Cells w (BS B O T w) news d)(C:d.length=m)(l:xs.length+m<=maxLen)(u:(xs.length+m)*bytes<=140737488355328)(h: ∀b w',OL e B O T w' b (xs++d)->Below B w w'->w.grownBy w' v.ownBlock->(b.ownBlock=v.ownBlock\/b.ownBlock=some w.heap.size)->wpList P f Q rest (a.put o.dst b) w'):wpList P f Q (o::rest) a w:=
 wpList_plain z λ_ q=>wB w s x t D p r E hs A m c news d G n F y C l u λb w' g i j k=>q _ _ (h b w' g i j k)
theorem zC {f:Array Oper}{o:Oper}{a:Act}{K:Act->World->Prop}{Q:Exit->Act->World->Prop}{E:Prop}(p:o.guard=none)(s x:Operand)(t:TypeId)(r:o.op=.call {callee:=.builtin .append,args:= #[s,x],argTypes:= #[t,t]}){e:TypeId}{bytes:Nat}(j:Elem P t e (Rep.size α) bytes){B:Nat}{O:Nat->Prop}{T:List TypeId}(k:e∉T){v:Value}{xs:List α}(u:OL e B O T w v xs)(hs:a.eval s=v)(A:Option Addr)(m c:Nat)(news:List Value)(d:List α)(z:a.eval x=.slice A m c)(i:A=none->m=0)(y:Src w (Rep.size α) A m news)(n:Cells w (BS B O T w) news d)(q:d.length=m)(g:xs.length+m<=maxLen)(l:(xs.length+m)*bytes<=140737488355328)(h: ∀b w',OL e B O T w' b (xs++d)->Below B w w'->w.grownBy w' v.ownBlock->(b.ownBlock=v.ownBlock\/b.ownBlock=some w.heap.size)->K (a.put o.dst b) w'):if Region.wanted o (yielded f a.tmps)=true then Oper.wp P o a w K Q else E:=by
 have hw:Region.wanted o (yielded f a.tmps)=true:=by simp[Region.wanted,p]
 rw[if_pos hw];exact wB w s x t r j k u hs A m c news d z i y n q g l h
theorem gD {j:Array Oper}{rest:List Oper}{o:Oper}{a:Act}{Q:Exit->Act->World->Prop}(C:o.guard=none)(s x:Operand)(t:TypeId)(D:o.op=.call {callee:=.builtin .append,args:= #[s,x],argTypes:= #[t,t]}){e:TypeId}{bytes:Nat}(u:Elem P t e (Rep.size α) bytes){B:Nat}{O:Nat->Prop}{T:List TypeId}(z:e∉T){v:Value}{xs:List α}(c:World)(arr:Array Value)(hw:w=c.alloc (.cells arr e))(g:OL e B O T c v xs)(hs:a.eval s=v)(E:a.eval x=.slice (some ⟨c.heap.size,0,none⟩) 1 1)(y:α)(i:Rep.rd c (BS B O T c) arr.toList y)(r:xs.length+1<=maxLen)(A:(xs.length+1)*bytes<=140737488355328)(h: ∀d w',OL e B O T w' d (xs++[y])->Below B c w'->c.grownBy w' v.ownBlock->(d.ownBlock=v.ownBlock\/ ∃k,d.ownBlock=some k/\c.heap.size<=k)->wpList P j Q rest (a.put o.dst d) w'):wpList P j Q (o::rest) a w:=by
 subst hw;have f: ∀k,BS B O T c k->(c.alloc (.cells arr e)).heap[k]?=c.heap[k]?:=λk f=>eB.block k (f.lt g.base);refine ow _ C s x t D u z (g.b eB) hs _ 1 1 arr.toList [y] E (by intro h;cases h) (xe c arr e _ 1 (by rw[Nat.one_mul];simpa using Rep.len i)) ((Cells.one (Rep.keep f i)).mono λk q=>q.kept (f k q)) rfl r A λd w' l m n p=>?_;have hb:Below B c (c.alloc (.cells arr e)):=(Below.refl B c).alloc g.base _;refine h d w' l (hb.trans m) ?_ (p.imp id λq=>⟨_,q,by simp⟩);exact(World.grownBy_alloc c _ v.ownBlock).trans n
theorem vY {F:Array Oper}{o:Oper}{a:Act}{K:Act->World->Prop}{Q:Exit->Act->World->Prop}{E:Prop}(A:o.guard=none)(s x:Operand)(t:TypeId)(C:o.op=.call {callee:=.builtin .append,args:= #[s,x],argTypes:= #[t,t]}){e:TypeId}{bytes:Nat}(r:Elem P t e (Rep.size α) bytes){B:Nat}{O:Nat->Prop}{T:List TypeId}(u:e∉T){v:Value}{xs:List α}(c:World)(arr:Array Value)(hw:w=c.alloc (.cells arr e))(g:OL e B O T c v xs)(hs:a.eval s=v)(D:a.eval x=.slice (some ⟨c.heap.size,0,none⟩) 1 1)(y:α)(i:Rep.rd c (BS B O T c) arr.toList y)(p:xs.length+1<=maxLen)(z:(xs.length+1)*bytes<=140737488355328)(h: ∀d w',OL e B O T w' d (xs++[y])->Below B c w'->c.grownBy w' v.ownBlock->(d.ownBlock=v.ownBlock\/ ∃k,d.ownBlock=some k/\c.heap.size<=k)->K (a.put o.dst d) w'):if Region.wanted o (yielded F a.tmps)=true then Oper.wp P o a w K Q else E:=by
 subst hw;have f: ∀k,BS B O T c k->(c.alloc (.cells arr e)).heap[k]?=c.heap[k]?:=λk f=>eB.block k (f.lt g.base);refine zC _ A s x t C r u (g.b eB) hs _ 1 1 arr.toList [y] D (by intro h;cases h) (xe c arr e _ 1 (by rw[Nat.one_mul];simpa using Rep.len i)) ((Cells.one (Rep.keep f i)).mono λk q=>q.kept (f k q)) rfl p z λd w' j l m n=>?_;have hb:Below B c (c.alloc (.cells arr e)):=(Below.refl B c).alloc g.base _;refine h d w' j (hb.trans l) ?_ (n.imp id λq=>⟨_,q,by simp⟩);exact(World.grownBy_alloc c _ v.ownBlock).trans m
end
theorem gJ {α:Type}{xs:List α}{k:Nat}{x:α}{l:List α}(h:xs.drop k=x::l):xs.take (k+1)=xs.take k++[x]:=by
 rw[List.take_add_one,(iI h).1];rfl
theorem fE {α:Type}{xs:List α}{k:Nat}{x:α}{l:List α}(h:xs.drop k=x::l):x∈xs:=List.mem_of_mem_drop (i:=k) (by rw[h];simp)
theorem mI {α:Type}[Rep α]{w:World}{e g n:Nat}{arr:Array Value}{xs:List α}(h:w.heap[g]?=some (.cells arr e (0,0)))(f:Cells w (λk=>k<w.heap.size) arr.toList xs)(a:xs.length=n)(j:n<=maxLen):
  In w (some ⟨g,0,none⟩) n n xs:=by
 have d:=f.len;have l:w.ownsRow 0 e (Rep.size α) (.slice (some ⟨g,0,none⟩) n n) n arr.toList:=by
  refine⟨by rw[d,a],.inr ⟨g,n,arr,rfl,Nat.zero_le _,h,Nat.le_refl _,j,?_,?_⟩⟩
  ·rw[<-a];simpa using d
  ·rw[List.take_of_length_le];rw[d,a];exact Nat.le_refl _
 obtain⟨A,c,b,hs,_⟩:=jZ (T:=λk=>k<w.heap.size) l f (λ_ h=>h) a (λg _ i=>i.lt);injection b with b _ e3;subst b e3;exact hs
theorem wH {w:World}{g t:Nat}{arr:Array Value}(h:w.heap[g]?=some (.cells arr t (0,0))): ∀j v,arr.toList[j]?=some v->w.cell? ⟨g,j,none⟩=some v:=by
 intro j v a;rw[cell_of_row w g j arr t (0,0) h,<-Array.getElem?_toList];exact a
theorem CZ (w:World)(o a:Obj):((w.alloc o).alloc a).heap[w.heap.size]?=some o:=(eB.block _ II).trans (heap_alloc_new w o)
end Go.Proofs.YthnelebakkggjaaGreatDoor
