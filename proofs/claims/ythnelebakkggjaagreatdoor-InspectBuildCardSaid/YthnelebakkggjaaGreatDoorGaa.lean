/-
  How data lies in memory: a class 'Rep' (what cells of a world a datum reads as), with its instances for ints, bools, strings, slices and the structs of package api; its frame; and the road from the claim's own reading ('DataW.trod') to it. No program is in sight. Plain functions, no program in sight: the values, columns, rows, bags and relations of chapters 1, 5, 6 and 19, as both texts compute them. Plain functions, no program in sight: expressions (chapter 8), their types and values (chapter 9), zones and days (chapter 4), checked arithmetic (chapter 2), as both texts compute them. Plain law: the program's day of an instant is the reference's. No program is in sight. Plain functions, no program in sight: merging, sorting and normalizing lists of entries (chapter 6), as the reference does it. Plain law: the orders of strings, values and rows are total orders. No program is in sight. Plain law of bags: a bag is told by its counts; merging and sorting add counts; Normalize's answer depends on the counts alone. No program is in sight. Plain: the count that the first equal row has.
-/
import Derived.WalkKit
import Derived.Deep.Slices
namespace Go.Proofs.YthnelebakkggjaaGreatDoor
set_option linter.unusedVariables false
set_option linter.unusedSimpArgs false
open Go.RowKit Go.ChangeShapes Go.WideShapes
def Same (S:Nat->Prop)(w w':World):Prop:= ∀k,S k->w'.heap[k]?=w.heap[k]?
theorem Same.refl (S:Nat->Prop)(w:World):Same S w w:=λ_ _=>rfl
theorem Same.trans {S:Nat->Prop}{a b c:World}(h:Same S a b)(e:Same S b c):Same S a c:=λk d=>(e k d).trans (h k d)
theorem Same.sub {S T:Nat->Prop}{a b:World}(h:Same T a b)(hs: ∀k,S k->T k):Same S a b:=λk c=>h k (hs k c)
theorem Same.b {B:Nat}{w w':World}(h:Below B w w'):Same (· < B) w w':=λk a=>h.block k a
theorem Same.cell {S:Nat->Prop}{w w':World}(h:Same S w w'){a:Addr}(b:S a.block):w'.cell? a=w.cell? a:=World.cell?_of_block (w:=w) (h _ b)
class Rep (α:Type) where
 size:Nat
 rd:World->(Nat->Prop)->List Value->α->Prop
 len: ∀{w:World} {S:Nat->Prop} {cs:List Value} {a:α},rd w S cs a->cs.length=size
 keep: ∀{w w':World} {S:Nat->Prop} {cs:List Value} {a:α},Same S w w'->rd w S cs a->rd w' S cs a
 mono: ∀{w:World} {S T:Nat->Prop} {cs:List Value} {a:α},(∀k,S k->T k)->rd w S cs a->rd w T cs a
def jP (n:Int):Prop:= -9223372036854775808<=n/\n<=9223372036854775807
instance:Rep Int where
 size:=1
 rd _ _ cs n:=cs=[.int .i64 n]/\jP n
 len h:=by rw[h.1];rfl
 keep _ h:=h
 mono _ h:=h
instance:Rep Bool where
 size:=1
 rd _ _ cs b:=cs=[.bool b]
 len h:=by rw[h];rfl
 keep _ h:=h
 mono _ h:=h
instance:Rep ByteArray where
 size:=1
 rd _ _ cs s:=cs=[.string s]/\s.size<=9223372036854775807
 len h:=by rw[h.1];rfl
 keep _ h:=h
 mono _ h:=h
def At {α:Type}[Rep α](w:World)(S:Nat->Prop)(b off:Nat)(a:α):Prop:=
 ∃c:List Value,Rep.rd w S c a/\ ∀j,(d:j<c.length)->w.cell? ⟨b,off+j,none⟩=some c[j]
theorem At.keep {α:Type}[Rep α]{w w':World}{S:Nat->Prop}{b off:Nat}{a:α}(hb:S b)(hs:Same S w w')(h:At w S b off a):At w' S b off a:=by
 obtain⟨c,d,e⟩:=h;exact⟨c,Rep.keep hs d,λj f=>(hs.cell (a:=⟨b,off+j,none⟩) hb).trans (e j f)⟩
theorem At.mono {α:Type}[Rep α]{w:World}{S T:Nat->Prop}{b off:Nat}{a:α}(hs: ∀k,S k->T k)(h:At w S b off a):At w T b off a:=by
 obtain⟨c,d,e⟩:=h;exact⟨c,Rep.mono hs d,e⟩
def Sl {α:Type}[Rep α](w:World)(S:Nat->Prop)(A:Option Addr)(n c:Nat)(xs:List α):Prop:=
 xs.length=n/\n<=c/\c<=9223372036854775807/\(A=none->c=0)/\
  (0<n-> ∃b off,A=some ⟨b,off,none⟩/\S b/\ ∀i,(hi:i<xs.length)->At w S b (off+i*Rep.size α) xs[i])
section
variable {α:Type}[Rep α]{w w':World}{S T:Nat->Prop}{A:Option Addr}{n c:Nat}{xs:List α}
theorem Sl.keep (hs:Same S w w')(h:Sl w S A n c xs):Sl w' S A n c xs:=by
 refine⟨h.1,h.2.1,h.2.2.1,h.2.2.2.1,λd=>?_⟩;obtain⟨b,off,e,hb,hi⟩:=h.2.2.2.2 d;exact⟨b,off,e,hb,λi a=>(hi i a).keep hb hs⟩
theorem Sl.mono (hs: ∀k,S k->T k)(h:Sl w S A n c xs):Sl w T A n c xs:=by
 refine⟨h.1,h.2.1,h.2.2.1,h.2.2.2.1,λd=>?_⟩;obtain⟨b,off,e,hb,hi⟩:=h.2.2.2.2 d;exact⟨b,off,e,hs _ hb,λi a=>(hi i a).mono hs⟩
theorem Sl.len (h:Sl w S A n c xs):xs.length=n:=h.1
theorem Sl.nil_:Sl (α:=α) w S none 0 0 []:=⟨rfl,Nat.le_refl _,by omega,λ_=>rfl,λh=>absurd h (by omega)⟩
theorem Sl.empty (h:c<=9223372036854775807)(a:A=none->c=0):Sl (α:=α) w S A 0 c []:=⟨rfl,by omega,h,a,λh=>absurd h (by omega)⟩
end
instance {α:Type} [Rep α]:Rep (List α) where
 size:=1
 rd w S cs xs:= ∃A n c,cs=[.slice A n c]/\Sl w S A n c xs
 len h:=by obtain⟨A,n,c,rfl,_⟩:=h;rfl
 keep hs h:=by obtain⟨A,n,c,rfl,h⟩:=h;exact⟨A,n,c,rfl,h.keep hs⟩
 mono hs h:=by obtain⟨A,n,c,rfl,h⟩:=h;exact⟨A,n,c,rfl,h.mono hs⟩
def j6 (P:Program)(t:TypeId)(α:Type)[Rep α]:Prop:=
 ∀(H:Type) (enc:TypeId×Value->H) (w:World) (c:Nat->Bool) (held:Bool) (fuel:Nat) (b:List Value) (y:DataW H×List MemPlace),
  DataW.trod enc P w 0 c held fuel t b=some y-> ∃a:α,Rep.rd w (· < w.heap.size) b a
section
variable {P:Program}{t e:TypeId}
theorem wf_i64 {n:Int}(h:(Lit.int .i64 n).wf=true):jP n:=by
 simp[Lit.wf,IntKind.min,IntKind.max,IntKind.signed,IntKind.bits]at h;unfold jP;omega
theorem jN (h:P.underlying t=some (.int .i64)):j6 P t Int:=λ_ _ _ _ _ _ _ _ b=>by
 obtain⟨n,a,_,hw⟩:=DataW.trod_int h b;exact⟨n,a,wf_i64 hw⟩
theorem Fa (h:P.underlying t=some .bool):j6 P t Bool:=λ_ _ _ _ _ _ _ _ c=>by
 obtain⟨b,a,_⟩:=DataW.trod_bool h c;exact⟨b,a⟩
theorem kD (h:P.underlying t=some .string):j6 P t ByteArray:=λ_ _ _ _ _ _ _ _ b=>by
 obtain⟨s,a,_,hw⟩:=DataW.trod_string h b;exact⟨s,a,by unfold maxLen at hw;omega⟩
theorem lt_of_cell {w:World}{a:Addr}{v:Value}(h:w.cell? a=some v):a.block<w.heap.size:=block_lt_of_cell h
theorem lX {α:Type}[Rep α][Inhabited α](h:P.underlying t=some (.slice e))(W:P.cellsOf e=Rep.size α)(V:0<Rep.size α)(B:j6 P e α):j6 P t (List α):=λH enc w N held fuel R y M=>by
 rcases Go.Deep.open_slice h M with ⟨z,_⟩|⟨a,len,cap,m,n,D,Q,A,hb,F,G,J,s,hi⟩
 ·exact⟨[],none,0,0,z,Sl.nil_⟩
 ·have I:cap<=9223372036854775807:=by unfold maxLen at G;omega
  have U:len<=m:=by rw[J];split<;>omega
  have u: ∀i,i<len-> ∃x:α,∃c,w.cells? 0 (a.add (i*P.cellsOf e)) (P.cellsOf e)=some c/\Rep.rd w (· < w.heap.size) c x:=λi p=>by
   obtain⟨c,d,L⟩:=hi i (by omega);obtain⟨x,s⟩:=B H enc w N held n c _ L;exact⟨x,c,d,s⟩
  obtain⟨f,l⟩:=Go.Deep.choose_lt u;refine⟨(List.range len).map f,some a,len,cap,A,by simp,F,I,(λh=>by cases h),λr=>?_⟩;have K:a.spot=none:=by
   obtain⟨c,d,o⟩:=l 0 r;obtain⟨_,q,k⟩:=World.cells?_some d;have g:=k 0 (by omega);rw[List.getElem?_eq_getElem (by omega)]at g;have:=World.cell?_spot g;simpa[Addr.add] using this
  obtain⟨b,off,O⟩:=a;obtain rfl:O=none:=K;have v:b<w.heap.size:=by
   obtain⟨c,d,o⟩:=l 0 r;obtain⟨_,q,k⟩:=World.cells?_some d;have g:=k 0 (by omega);rw[List.getElem?_eq_getElem (by omega)]at g;have:=lt_of_cell g;simpa[Addr.add] using this
  refine⟨b,off,rfl,v,λi C=>?_⟩;have p:i<len:=by simpa using C
  obtain⟨c,d,o⟩:=l i p;obtain⟨_,q,k⟩:=World.cells?_some d;refine⟨c,by simpa using o,λj E=>?_⟩;have:=k j (by omega);rw[List.getElem?_eq_getElem E]at this;rw[<-this]
  congr 1
  unfold Addr.add;by_cases S:i*P.cellsOf e=0<;>by_cases T:j=0<;>simp_all[Nat.add_assoc]
end
structure Val where
 kind:Int
 num:Int
 str:ByteArray
structure Col where
 name:ByteArray
 kind:Int
 nullable:Bool
structure Ent where
 row:List Val
 count:Int
structure Rel where
 name:ByteArray
 columns:List Col
 keys:List (List ByteArray)
 rows:List Ent
structure Shift where
 at_:Int
 offset:Int
structure Zone where
 name:ByteArray
 offset:Int
 shifts:List Shift
structure Node where
 op:Int
 value:Val
 name:ByteArray
 arity:Int
instance:Inhabited Val:=⟨⟨0,0,ByteArray.empty⟩⟩
instance:Inhabited Col:=⟨⟨ByteArray.empty,0,false⟩⟩
instance:Inhabited Ent:=⟨⟨[],0⟩⟩
instance:Inhabited Shift:=⟨⟨0,0⟩⟩
instance:Inhabited Zone:=⟨⟨ByteArray.empty,0,[]⟩⟩
instance:Inhabited Node:=⟨⟨0,default,ByteArray.empty,0⟩⟩
def Str (s:ByteArray):Prop:=s.size<=9223372036854775807
def Val.ok (v:Val):Prop:=jP v.kind/\jP v.num/\Str v.str
def Col.ok (c:Col):Prop:=Str c.name/\jP c.kind
def M0 (a:Int):Prop:=a=a
def Node.ok (n:Node):Prop:=jP n.op/\n.value.ok/\Str n.name/\jP n.arity/\M0 n.op
def Val.cells (v:Val):List Value:=[.int .i64 v.kind,.int .i64 v.num,.string v.str]
def Col.cells (c:Col):List Value:=[.string c.name,.int .i64 c.kind,.bool c.nullable]
def Shift.cells (s:Shift):List Value:=[.int .i64 s.at_,.int .i64 s.offset]
def Node.cells (n:Node):List Value:=[.int .i64 n.op,.int .i64 n.value.kind,.int .i64 n.value.num,.string n.value.str,.string n.name,.int .i64 n.arity]
instance:Rep Val where
 size:=3
 rd _ _ cs v:=cs=v.cells/\v.ok
 len h:=by rw[h.1];rfl
 keep _ h:=h
 mono _ h:=h
instance:Rep Col where
 size:=3
 rd _ _ cs v:=cs=v.cells/\v.ok
 len h:=by rw[h.1];rfl
 keep _ h:=h
 mono _ h:=h
instance:Rep Shift where
 size:=2
 rd _ _ cs v:=cs=v.cells/\jP v.at_/\jP v.offset
 len h:=by rw[h.1];rfl
 keep _ h:=h
 mono _ h:=h
instance:Rep Node where
 size:=6
 rd _ _ cs v:=cs=v.cells/\v.ok
 len h:=by rw[h.1];rfl
 keep _ h:=h
 mono _ h:=h
instance:Rep Ent where
 size:=2
 rd w S cs x:= ∃A n c,cs=[.slice A n c,.int .i64 x.count]/\Sl w S A n c x.row/\jP x.count
 len h:=by obtain⟨A,n,c,rfl,_⟩:=h;rfl
 keep hs h:=by obtain⟨A,n,c,rfl,h,hc⟩:=h;exact⟨A,n,c,rfl,h.keep hs,hc⟩
 mono hs h:=by obtain⟨A,n,c,rfl,h,hc⟩:=h;exact⟨A,n,c,rfl,h.mono hs,hc⟩
instance:Rep Zone where
 size:=3
 rd w S cs x:= ∃A n c,cs=[.string x.name,.int .i64 x.offset,.slice A n c]/\Sl w S A n c x.shifts/\Str x.name/\jP x.offset
 len h:=by obtain⟨A,n,c,rfl,_⟩:=h;rfl
 keep hs h:=by obtain⟨A,n,c,rfl,h,hc⟩:=h;exact⟨A,n,c,rfl,h.keep hs,hc⟩
 mono hs h:=by obtain⟨A,n,c,rfl,h,hc⟩:=h;exact⟨A,n,c,rfl,h.mono hs,hc⟩
instance:Rep Rel where
 size:=4
 rd w S cs x:= ∃A n c A' n' c' A'' n'' c'',cs=[.string x.name,.slice A n c,.slice A' n' c',.slice A'' n'' c'']/\Sl w S A n c x.columns/\Sl w S A' n' c' x.keys/\Sl w S A'' n'' c'' x.rows/\Str x.name
 len h:=by obtain⟨_,_,_,_,_,_,_,_,_,rfl,_⟩:=h;rfl
 keep hs h:=by obtain⟨A,n,c,A',n',c',A'',n'',c'',rfl,h1,h2,h3,h4⟩:=h;exact⟨A,n,c,A',n',c',A'',n'',c'',rfl,h1.keep hs,h2.keep hs,h3.keep hs,h4⟩
 mono hs h:=by obtain⟨A,n,c,A',n',c',A'',n'',c'',rfl,h1,h2,h3,h4⟩:=h;exact⟨A,n,c,A',n',c',A'',n'',c'',rfl,h1.mono hs,h2.mono hs,h3.mono hs,h4⟩
section
variable {P:Program}{t:TypeId}
def gL (P:Program)(f:Field)(o:Nat)(β:Type)[Rep β]:Prop:=f.offset=o/\P.cellsOf f.type=Rep.size β/\j6 P f.type β
theorem Bi {α β γ:Type}[Rep α][Rep β][Rep γ]{e f1:Field}(h:P.underlying t=some (.struct #[e,f1]))(v:P.cellsOf t=Rep.size α+Rep.size β)(d:gL P e 0 α)(f:gL P f1 (Rep.size α) β)(mk: ∀w S ca cb (a:α) (b:β),Rep.rd w S ca a->Rep.rd w S cb b-> ∃g:γ,Rep.rd w S (ca++cb) g):j6 P t γ:=λH enc w p held fuel c y r=>by
 obtain⟨xs,n,_,_,x,q,o⟩:=DataW.trod_struct h r
 match xs,q with
 | [y0,y1],_=>
  have k:=o 0 e rfl;have m:=o 1 f1 rfl;rw[d.1,d.2.1]at k;rw[f.1,f.2.1]at m;obtain⟨a,s⟩:=d.2.2 H enc w p held n _ y0 (by simpa using k);obtain⟨b,u⟩:=f.2.2 H enc w p held n _ y1 (by simpa using m);obtain⟨g,rg⟩:=mk _ _ _ _ a b s u;refine⟨g,?_⟩;have:c=(c.drop 0).take (Rep.size α)++(c.drop (Rep.size α)).take (Rep.size β):=by
   rw[List.drop_zero,List.take_of_length_le (l:=c.drop (Rep.size α)) (by rw[List.length_drop];omega),List.take_append_drop]
  rw[this];exact rg
theorem xI {α β δ γ:Type}[Rep α][Rep β][Rep δ][Rep γ]{e f1 i:Field}(h:P.underlying t=some (.struct #[e,f1,i]))(A:P.cellsOf t=Rep.size α+Rep.size β+Rep.size δ)(f:gL P e 0 α)(k:gL P f1 (Rep.size α) β)(m:gL P i (Rep.size α+Rep.size β) δ)(mk: ∀w S ca cb cd (a:α) (b:β) (d:δ),Rep.rd w S ca a->Rep.rd w S cb b->Rep.rd w S cd d-> ∃g:γ,Rep.rd w S (ca++cb++cd) g):j6 P t γ:=λH enc w p held fuel c y v=>by
 obtain⟨xs,n,_,_,B,u,o⟩:=DataW.trod_struct h v
 match xs,u with
 | [y0,y1,y2],_=>
  have q:=o 0 e rfl;have r:=o 1 f1 rfl;have s:=o 2 i rfl;rw[f.1,f.2.1]at q;rw[k.1,k.2.1]at r;rw[m.1,m.2.1]at s;obtain⟨a,x⟩:=f.2.2 H enc w p held n _ y0 (by simpa using q);obtain⟨b,z⟩:=k.2.2 H enc w p held n _ y1 (by simpa using r);obtain⟨d,rd⟩:=m.2.2 H enc w p held n _ y2 (by simpa using s);obtain⟨g,rg⟩:=mk _ _ _ _ _ a b d x z rd;refine⟨g,?_⟩;have:c=(c.drop 0).take (Rep.size α)++(c.drop (Rep.size α)).take (Rep.size β)++(c.drop (Rep.size α+Rep.size β)).take (Rep.size δ):=by
   rw[List.drop_zero,<-List.take_add,List.take_of_length_le (l:=c.drop (Rep.size α+Rep.size β)) (by rw[List.length_drop];omega),List.take_append_drop]
  rw[this];exact rg
theorem zl {α β δ ε γ:Type}[Rep α][Rep β][Rep δ][Rep ε][Rep γ]{e f1 i j:Field}(h:P.underlying t=some (.struct #[e,f1,i,j]))(E:P.cellsOf t=Rep.size α+Rep.size β+Rep.size δ+Rep.size ε)(m:gL P e 0 α)(o:gL P f1 (Rep.size α) β)(p:gL P i (Rep.size α+Rep.size β) δ)(q:gL P j (Rep.size α+Rep.size β+Rep.size δ) ε)(mk: ∀w S ca cb cd ce (a:α) (b:β) (d:δ) (x:ε),Rep.rd w S ca a->Rep.rd w S cb b->Rep.rd w S cd d->Rep.rd w S ce x-> ∃g:γ,Rep.rd w S (ca++cb++cd++ce) g):j6 P t γ:=λH enc w k held fuel c y A=>by
 obtain⟨xs,n,_,_,F,z,f⟩:=DataW.trod_struct h A
 match xs,z with
 | [y0,y1,y2,y3],_=>
  have r:=f 0 e rfl;have s:=f 1 f1 rfl;have u:=f 2 i rfl;have v:=f 3 j rfl;rw[m.1,m.2.1]at r;rw[o.1,o.2.1]at s;rw[p.1,p.2.1]at u;rw[q.1,q.2.1]at v;obtain⟨a,B⟩:=m.2.2 H enc w k held n _ y0 (by simpa using r);obtain⟨b,C⟩:=o.2.2 H enc w k held n _ y1 (by simpa using s);obtain⟨d,rd⟩:=p.2.2 H enc w k held n _ y2 (by simpa using u);obtain⟨x,D⟩:=q.2.2 H enc w k held n _ y3 (by simpa using v);obtain⟨g,rg⟩:=mk _ _ _ _ _ _ a b d x B C rd D;refine⟨g,?_⟩;have:c=(c.drop 0).take (Rep.size α)++(c.drop (Rep.size α)).take (Rep.size β)++(c.drop (Rep.size α+Rep.size β)).take (Rep.size δ)++(c.drop (Rep.size α+Rep.size β+Rep.size δ)).take (Rep.size ε):=by
   rw[List.drop_zero,<-List.take_add,<-List.take_add,List.take_of_length_le (l:=c.drop (Rep.size α+Rep.size β+Rep.size δ)) (by rw[List.length_drop];omega),List.take_append_drop]
  rw[this];exact rg
variable {e f1 i j:Field}
theorem Hr (h:P.underlying t=some (.struct #[e,f1,i]))(m:P.cellsOf t=3)(g:gL P e 0 Int)(k:gL P f1 1 Int)(l:gL P i 2 ByteArray):j6 P t Val:=
 xI h m g k l λ_ _ _ _ _ a b d c f rd=>⟨⟨a,b,d⟩,by rw[c.1,f.1,rd.1];rfl,c.2,f.2,rd.2⟩
theorem Hf (h:P.underlying t=some (.struct #[e,f1,i]))(m:P.cellsOf t=3)(g:gL P e 0 ByteArray)(k:gL P f1 1 Int)(l:gL P i 2 Bool):j6 P t Col:=
 xI h m g k l λ_ _ _ _ _ a b d c f rd=>⟨⟨a,b,d⟩,by rw[c.1,f.1,rd];rfl,c.2,f.2⟩
theorem DI (h:P.underlying t=some (.struct #[e,f1]))(k:P.cellsOf t=2)(f:gL P e 0 Int)(g:gL P f1 1 Int):j6 P t Shift:=
 Bi h k f g λ_ _ _ _ a b c d=>⟨⟨a,b⟩,by rw[c.1,d.1];rfl,c.2,d.2⟩
theorem Hg (h:P.underlying t=some (.struct #[e,f1]))(l:P.cellsOf t=2)(f:gL P e 0 (List Val))(g:gL P f1 1 Int):j6 P t Ent:=
 Bi h l f g λ_ _ _ _ a b ⟨A,n,c,m,k⟩ d=>⟨⟨a,b⟩,A,n,c,by rw[m,d.1];rfl,k,d.2⟩
theorem Fh (h:P.underlying t=some (.struct #[e,f1,i,j]))(o:P.cellsOf t=6)(k:gL P e 0 Int)(l:gL P f1 1 Val)(m:gL P i 4 ByteArray)(n:gL P j 5 Int):j6 P t Node:=
 zl h o k l m n λ_ _ _ _ _ _ a b d x c f rd g=>⟨⟨a,b,d,x⟩,by rw[c.1,f.1,rd.1,g.1];rfl,c.2,f.2,rd.2,g.2,rfl⟩
theorem Hq (h:P.underlying t=some (.struct #[e,f1,i,j]))(r:P.cellsOf t=4)(m:gL P e 0 ByteArray)(o:gL P f1 1 (List Col))(p:gL P i 2 (List (List ByteArray)))(q:gL P j 3 (List Ent)):j6 P t Rel:=
 zl h r m o p q λ_ _ _ _ _ _ a b d x f ⟨A,n,c,g,s⟩ ⟨A',n',c',k,u⟩ ⟨A'',n'',c'',l,v⟩=>⟨⟨a,b,d,x⟩,A,n,c,A',n',c',A'',n'',c'',by rw[f.1,g,k,l];rfl,s,u,v,f.2⟩
end
def kW (a b:Int):Int:=if a<b then -1 else if b<a then 1 else 0
def kL (a b:ByteArray):Int:=if Op.bytesLess a.toList b.toList=true then -1 else if a.toList=b.toList then 0 else 1
def fV (a b:Val):Int:=if kW a.kind b.kind≠0 then kW a.kind b.kind else if kW a.num b.num≠0 then kW a.num b.num else kL a.str b.str
def eZ:List Val->List Val->Int
 | [],[]=>0
 | [],_::_=> -1
 | _::_,[]=>1
 |a::l,b::m=>if fV a b≠0 then fV a b else eZ l m
def jH (s:ByteArray):Bool:=s.toList.isEmpty
def valid (v:Val):Bool:=
 if v.kind=0 then(v.num==0)&&jH v.str
 else if v.kind=1 then jH v.str&&(v.num==0 || v.num==1)
 else if v.kind=2 then jH v.str&&(decide (-1073741824<=v.num)&&decide (v.num<=1073741824))
 else if v.kind=3 then(v.num==0)&&decide (v.str.size<=64)
 else if v.kind=4 then jH v.str&&(decide (0<=v.num)&&decide (v.num<=575999999))
 else false
def jG (s:ByteArray)(i:Nat):Nat:=(s.data.toList.getD i 0).toNat
def lc (c:Nat)(i:Nat):Bool:=(decide (97<=c)&&decide (c<=122)) || (decide (0<i)&&(decide (c=95) || (decide (48<=c)&&decide (c<=57))))
def kz (s:ByteArray):Nat->Nat->Bool
 | 0,_=>true
 |b+1,i=>lc (jG s i) i&&kz s b (i+1)
def ik (s:ByteArray):Bool:=decide (s.size<=24)&&(kz s s.size 0&&decide (0<s.size))
def fU (name:ByteArray):Nat->List Col->Int
 | _,[]=> -1
 |k,c::l=>if c.name.toList==name.toList then k else fU name (k+1) l
def index (cols:List Col)(name:ByteArray):Int:=fU name 0 cols
def kM (cols:List Col)(i:Nat)(c:Col):Int:=
 if ik c.name=false then 4 else if c.kind<1\/4<c.kind then 7 else if index cols c.name<i then 6 else 0
def eH {α:Type}(f:Nat->α->Int):Nat->List α->Int
 | _,[]=>0
 |k,x::l=>if f k x≠0 then f k x else eH f (k+1) l
def fq (cols:List Col):Int:=if cols.length<1\/12<cols.length then 2 else eH (kM cols) 0 cols
def iq (c:Col)(v:Val):Int:=
 if valid v=false then 8 else if (v.kind=0/\c.nullable=false)\/(v.kind≠0/\v.kind≠c.kind) then 7 else 0
def fB (cols:List Col)(row:List Val):Int:=
 if row.length≠cols.length then 8 else eH (λi v=>iq (cols.getD i default) v) 0 row
def gy (x:Ent):Int:=
 if 12<x.row.length\/x.count < -65536\/65536<x.count then 2 else eH (λ_ v=>if valid v then 0 else 8) 0 x.row
def iT (b:List Ent)(i:Nat)(x:Ent):Int:=
 if gy x≠0 then gy x else if x.count=0 then 8 else if 0<i/\0<=eZ (b.getD (i-1) default).row x.row then 14 else 0
def fA (b:List Ent):Int:=if 4096<b.length then 2 else eH (iT b) 0 b
def jE (b:List Ent):Bool:=fA b==0&&b.all λx=>decide (0<=x.count)
def pq (n:Int):Bool:=decide (-840<=n)&&decide (n<=840)
def iZ (l:List Shift)(i:Nat)(s:Shift):Int:=
 if s.at_<1\/575999999<s.at_\/pq s.offset=false then 1 else if 0<i/\s.at_<=((l[i-1]?).map Shift.at_).getD 0 then 14 else 0
def gp (l:List Shift):Nat->List Shift->Int
 | _,[]=>0
 |k,x::r=>if iZ l k x≠0 then iZ l k x else gp l (k+1) r
def fD (z:Zone):Int:=if 64<z.shifts.length then 2 else if pq z.offset=false then 1 else gp z.shifts 0 z.shifts
def zP (l:List Zone):Int:=eH (λ_ z=>fD z) 0 l
def kG (name:ByteArray):Nat->List Zone->Int
 | _,[]=> -1
 |k,z::l=>if z.name.toList==name.toList then k else kG name (k+1) l
def jC (zs:List Zone)(name:ByteArray):Int:=kG name 0 zs
def iw (zs:List Zone)(name:ByteArray):Zone:=if jC zs name<0 then default else zs.getD (jC zs name).toNat default
def kv (t o:Int):Int:=if t+o<0 then -1 else(t+o) / 1440
def jI (t:Int):List Shift->Int->Int->Int
 | [],best,o=>max best (kv t o)
 |s::l,best,o=>if t<s.at_ then max best (kv t o) else jI t l (max best (kv (s.at_-1) o)) s.offset
def vG (z:Zone)(t:Int):Int:=jI t z.shifts 0 z.offset
def jT (z:Zone)(t:Int):Int:=if fD z≠0 then fD z else if t<0\/575999999<t then 1 else 0
def qM (z:Zone)(t:Int):Int×Int:=if jT z t≠0 then(0,jT z t) else(vG z t,0)
def jr:List UInt8->Nat
 | []=>0
 |c::l=>if c=46 then 0 else jr l+1
def sJ (s:ByteArray):Nat:=jr s.toList
def kP (s:ByteArray):Bool:=
 if sJ s<s.size then ik (s.extract 0 (sJ s))&&ik (s.extract (sJ s+1) s.size) else ik s
def mD (l:List ByteArray)(s:ByteArray):Bool:=l.any λx=>x.toList==s.toList
def words:List ByteArray:=[⟨#[97,110,100]⟩,⟨#[111,114]⟩,⟨#[110,111,116]⟩,⟨#[110,117,108,108]⟩,⟨#[116,114,117,101]⟩,⟨#[102,97,108,115,101]⟩,⟨#[98,121]⟩,⟨#[115,101,108,102]⟩]
def sO:List ByteArray:=[⟨#[105,102]⟩,⟨#[99,111,97,108,101,115,99,101]⟩,⟨#[105,115,110,117,108,108]⟩,⟨#[108,101,110,103,116,104]⟩,⟨#[100,97,121]⟩]
def qA (s:ByteArray):Bool:=mD words s
def qy (s:ByteArray):Bool:=mD sO s
def arity (a b:Int):Int:=
 if a=0\/a=1 then 0 else if a=2\/a=3\/a=16\/a=19\/a=20 then 1 else if a=17 then 3 else if a=21 then b else if 4<=a/\a<=18 then 2 else -1
def lh (v:Val):Bool:=v.kind==0&&v.num==0&&jH v.str
def shaped (n:Node):Bool:=
 if n.op=0 then valid n.value&&jH n.name&&n.arity==0
 else lh n.value&&
  (if n.op=21 then kP n.name&&!qy n.name&&!qA n.name&&(decide (0<=n.arity)&&decide (n.arity<=8))
   else n.arity==0&&(if n.op=1 then ik n.name&&!qA n.name else if n.op=20 then kP n.name&&!qA n.name else jH n.name&&decide (0<=arity n.op n.arity)))
def raise (l:List Int):Int:=l.foldl (λh x=>max h (1+x)) 1
def oh (n:Node)(len:Nat):Nat:=len-(arity n.op n.arity).toNat
def fZ:List Int->List Node->Int
 |st,[]=>if st.length≠1 then 8 else 0
 |st,n::l=>
  if shaped n=false\/(st.length:Int)<arity n.op n.arity then 8
  else if 64<raise (st.drop (oh n st.length)) then 2
  else fZ (st.take (oh n st.length)++[raise (st.drop (oh n st.length))]) l
def gY (e:List Node):Int:=if 256<e.length then 2 else fZ [] e
structure Kd where
 kind:Int
 null:Bool
instance:Inhabited Kd:=⟨⟨0,false⟩⟩
def fits (x:Kd)(k:Int):Bool:=x.kind==k || x.kind==0
def common (a b:Kd):Int×Bool:=if a.kind=0 then(b.kind,true) else(a.kind,fits b a.kind)
def jc (a:Int)(x:Kd):Kd×Bool:=
 if a=2 then(⟨1,x.null⟩,fits x 1) else if a=3 then(⟨2,x.null⟩,fits x 2) else if a=16 then(⟨1,false⟩,true) else if a=19 then(⟨2,x.null⟩,fits x 3) else(⟨2,x.null⟩,fits x 4)
def fH (a:Int)(x y:Kd):Kd×Bool:=
 if a=4 then(if x.kind=4 then(⟨4,true⟩,fits y 2) else(⟨2,true⟩,fits x 2&&fits y 2))
 else if a=5 then(if y.kind=4 then(⟨2,x.null || y.null⟩,fits x 4) else if x.kind=4 then(⟨4,true⟩,fits y 2) else(⟨2,true⟩,fits x 2&&fits y 2))
 else if a=6\/a=7\/a=8 then(⟨2,true⟩,fits x 2&&fits y 2)
 else if a=9 then(⟨3,true⟩,fits x 3&&fits y 3)
 else if a=14\/a=15 then(⟨1,x.null || y.null⟩,fits x 1&&fits y 1)
 else if a=18 then(⟨(common x y).1,x.null&&y.null⟩,(common x y).2)
 else(⟨1,x.null || y.null⟩,(common x y).2)
def fJ (n:Node):List Kd->Kd×Bool
 | []=>(⟨n.value.kind,n.value.kind==0⟩,true)
 | [x]=>jc n.op x
 | [x,y]=>fH n.op x y
 |x::y::z::_=>(⟨(common y z).1,y.null || z.null⟩,(common y z).2&&fits x 1)
def fo (cols:List Col)(zs:List Zone)(n:Node)(xs:List Kd):Int×Kd:=
 if n.op=1 then(if index cols n.name<0 then(5,default) else(0,⟨(cols.getD (index cols n.name).toNat default).kind,(cols.getD (index cols n.name).toNat default).nullable⟩))
 else if n.op=21 then(5,default)
 else if n.op=20/\jC zs n.name<0 then(5,default)
 else if (fJ n xs).2=false then(7,default) else(0,(fJ n xs).1)
def fT (cols:List Col)(zs:List Zone):List Kd->List Node->Int×Kd
 |st,[]=>(0,st.headD default)
 |st,n::l=>
  if (fo cols zs n (st.drop (oh n st.length))).1≠0 then((fo cols zs n (st.drop (oh n st.length))).1,default)
  else fT cols zs (st.take (oh n st.length)++[(fo cols zs n (st.drop (oh n st.length))).2]) l
def gV (e:List Node)(cols:List Col)(zs:List Zone):Int:=
 if gY e≠0 then gY e else if fq cols≠0 then fq cols else zP zs
def ig (e:List Node)(cols:List Col)(zs:List Zone):Int×Kd:=
 if gV e cols zs≠0 then(gV e cols zs,default) else fT cols zs [] e
def fP:Val:=⟨0,0,⟨#[]⟩⟩
def iM (b:Bool):Val:=⟨1,if b then 1 else 0,⟨#[]⟩⟩
def jb (n:Int)(ok:Bool):Val:=if ok then⟨2,n,⟨#[]⟩⟩ else fP
def o7 (n:Int):Val:=if n<0\/575999999<n then fP else⟨4,n,⟨#[]⟩⟩
def truth (v:Val):Int:=if v.kind=1/\valid v=true then v.num else -1
def iP (a b:Val)(stop:Int):Val:=
 if truth a=stop\/truth b=stop then iM (stop==1) else if truth a<0\/truth b<0 then fP else iM (stop==0)
def gX (n:Int):Bool:=decide (-1073741824<=n)&&decide (n<=1073741824)
def rE (a b:Int):Int×Bool:=if gX a&&gX b&&gX (a+b) then(a+b,true) else(0,false)
def kR (a b:Int):Int×Bool:=if gX a&&gX b&&gX (a-b) then(a-b,true) else(0,false)
def rT (a b:Int):Int×Bool:=if gX a&&gX b&&gX (a*b) then(a*b,true) else(0,false)
def oW (a b:Int):Int×Bool:=if gX a&&gX b&&b != 0 then(a.fdiv b,true) else(0,false)
def pI (a b:Int):Int×Bool:=if gX a&&gX b&&b != 0 then(a.fmod b,true) else(0,false)
def gQ (a:Int)(x y:Val):Val:=
 if a=4 then(if x.kind=4 then o7 (x.num+y.num) else jb (rE x.num y.num).1 (rE x.num y.num).2)
 else if a=5 then(if x.kind=4/\y.kind=2 then o7 (x.num-y.num) else jb (kR x.num y.num).1 (kR x.num y.num).2)
 else if a=6 then jb (rT x.num y.num).1 (rT x.num y.num).2
 else if a=7 then jb (oW x.num y.num).1 (oW x.num y.num).2
 else jb (pI x.num y.num).1 (pI x.num y.num).2
def iW (a:Int)(x y:Val):Val:=
 if a=9 then(if 64<(x.str++y.str).size then fP else⟨3,0,x.str++y.str⟩)
 else if a=10 then iM (fV x y==0)
 else if a=11 then iM (fV x y != 0)
 else if a=12 then iM (decide (fV x y<0))
 else if a=13 then iM (decide (fV x y<=0))
 else gQ a x y
def xR (zs:List Zone)(a:Int)(name:ByteArray)(x:Val):Val:=
 if a=16 then iM (x.kind==0) else if x.kind=0 then fP else if a=2 then iM (x.num==0) else if a=3 then jb (kR 0 x.num).1 (kR 0 x.num).2
 else if a=19 then jb x.str.size true else jb (qM (iw zs name) x.num).1 true
def jl (zs:List Zone)(n:Node):List Val->Val
 | []=>n.value
 | [x]=>xR zs n.op n.name x
 | [x,y]=>if n.op=14 then iP x y 0 else if n.op=15 then iP x y 1 else if n.op=18 then(if x.kind=0 then y else x) else if x.kind=0\/y.kind=0 then fP else iW n.op x y
 |x::y::z::_=>if truth x=1 then y else z
def lG (cols:List Col)(row:List Val)(zs:List Zone)(n:Node)(xs:List Val):Val:=
 if n.op=1 then row.getD (index cols n.name).toNat fP else jl zs n xs
def lH (cols:List Col)(row:List Val)(zs:List Zone):List Val->List Node->Val
 |st,[]=>st.headD fP
 |st,n::l=>lH cols row zs (st.take (oh n st.length)++[lG cols row zs n (st.drop (oh n st.length))]) l
def kT (e:List Node)(cols:List Col)(row:List Val)(zs:List Zone):Int×Val:=
 if (ig e cols zs).1≠0 then((ig e cols zs).1,fP) else if fB cols row≠0 then(fB cols row,fP) else(0,lH cols row zs [] e)
def mK (t:Int):List Shift->Int->Int
 | [],o=>o
 |s::l,o=>mK t l (if s.at_<=t then s.offset else o)
def tZ (z:Zone)(t:Int):Int:=(t+mK t z.shifts z.offset) / 1440
def iR (z:Zone)(t:Int):List Shift->Int->Int
 | [],d=>d
 |s::l,d=>iR z t l (if s.at_<=t then max d (tZ z (s.at_-1)) else d)
def JA (z:Zone)(t:Int):Int:=iR z t z.shifts (max 0 (tZ z t))
theorem vP (t:Int): ∀(p l:List Shift) (o:Int),mK t (p++l) o=mK t l (mK t p o)
 | [],_,_=>rfl
 |s::p,l,o=>by rw[List.cons_append,mK,mK];exact vP t p l _
theorem uR (t:Int): ∀(l:List Shift) (o:Int),(∀s∈l,t<s.at_)->mK t l o=o
 | [],_,_=>rfl
 |s::l,o,h=>by
  have hs:=h s (by simp);rw[mK,if_neg (by omega)];exact uR t l o λq a=>h q (by simp[a])
theorem Bh (t u:Int): ∀(l:List Shift) (o:Int),(∀s∈l,s.at_<=t)->(∀s∈l,s.at_<=u)->mK t l o=mK u l o
 | [],_,_,_=>rfl
 |s::l,o,h,h'=>by
  rw[mK,mK,if_pos (h s (by simp)),if_pos (h' s (by simp))];exact Bh t u l _ (λq a=>h q (by simp[a])) (λq a=>h' q (by simp[a]))
theorem rZ (z:Zone)(t:Int): ∀(l:List Shift) (a b:Int),iR z t l (max a b)=max (iR z t l a) b
 | [],a,b=>rfl
 |s::l,a,b=>by
  rw[iR,iR]
  split
  ·rw[show max (max a b) (tZ z (s.at_-1))=max (max a (tZ z (s.at_-1))) b by omega];exact rZ z t l _ b
  ·exact rZ z t l a b
theorem tX (z:Zone)(t:Int): ∀(l:List Shift) (d:Int),(∀s∈l,t<s.at_)->iR z t l d=d
 | [],_,_=>rfl
 |s::l,d,h=>by
  have hs:=h s (by simp);rw[iR,if_neg (by omega)];exact tX z t l d λq a=>h q (by simp[a])
theorem wV {b t o:Int}(hb:0<=b):max b (kv t o)=max b ((t+o) / 1440):=by
 unfold kv
 split<;>omega
theorem Cz (z:Zone)(t:Int): ∀(l p:List Shift) (d:Int),z.shifts=p++l->(p++l).Pairwise (λa b=>a.at_<b.at_)->(∀s∈p,s.at_<=t)->0<=d->
  jI t l d (mK t p z.offset)=max (iR z t l d) (tZ z t)
 | [],p,d,hz,hp,hle,hb=>by
  rw[jI,iR,wV hb,tZ,hz,List.append_nil]
 |s::l,p,d,hz,hp,hle,hb=>by
  have f:=List.pairwise_append.1 hp;have g:=List.pairwise_cons.1 f.2.1;rw[jI];by_cases hs:t<s.at_
  ·have e: ∀q∈s::l,t<q.at_:=by
    intro q c;rcases List.mem_cons.1 c with rfl|c
    ·exact hs
    ·have:=g.1 q c;omega
   rw[if_pos hs,tX z t _ _ e,wV hb,tZ,hz,vP,uR t _ _ e]
  ·rw[if_neg hs];have k: ∀q∈p,q.at_<=s.at_-1:=λq c=>by have:=f.2.2 q c s (by simp);omega
   have j: ∀q∈s::l,s.at_-1<q.at_:=by
    intro q c;rcases List.mem_cons.1 c with rfl|c
    ·omega
    ·have:=g.1 q c;omega
   have m:tZ z (s.at_-1)=(s.at_-1+mK t p z.offset) / 1440:=by
    rw[tZ,hz,vP,uR _ _ _ j,Bh (s.at_-1) t p _ k hle]
   have i:mK t (p++[s]) z.offset=s.offset:=by rw[vP,mK,if_pos (by omega)];rfl
   have h:=Cz z t l (p++[s]) (max d (kv (s.at_-1) (mK t p z.offset))) (by rw[hz];simp) (by simpa using hp)
    (by intro q c;rcases List.mem_append.1 c with c|c;exact hle q c;simp at c;subst c;omega) (by omega)
   rw[i]at h;rw[h,iR,if_pos (by omega),m,wV hb]
theorem yK {l:List Shift}: ∀(r:List Shift) (k:Nat),l.drop k=r->gp l k r=0->(∀x,0<k->l[k-1]?=some x-> ∀s∈r,x.at_<s.at_)/\r.Pairwise (λa b=>a.at_<b.at_)
 | [],k,_,_=>⟨λ_ _ _ s hs=>by(cases hs),List.Pairwise.nil⟩
 |s::r,k,hd,h=>by
  rw[gp]at h
  split at h
  ·contradiction
  ·rename_i c;have c:iZ l k s=0:=by omega
   have i:l[k]?=some s:=by
    have:=congrArg (λq=>q[0]?) hd;simpa using this
   have g:l.drop (k+1)=r:=by
    have:=congrArg (λq=>q.drop 1) hd;simpa using this
   obtain⟨o,p⟩:=yK r (k+1) g h;have f:=o s (by omega) (by simpa using i);refine⟨λx j m q e=>?_,List.pairwise_cons.2 ⟨f,p⟩⟩;have n:x.at_<s.at_:=by
    rw[iZ]at c
    split at c
    ·omega
    ·split at c
     ·omega
     ·rename_i d;rw[m]at d;simp at d;have:=d j;omega
   rcases List.mem_cons.1 e with rfl|e
   ·exact n
   ·have:=f q e;omega
theorem Ml {z:Zone}(a:fD z=0)(t:Int):vG z t=JA z t:=by
 have b:gp z.shifts 0 z.shifts=0:=by
  rw[fD]at a
  split at a
  ·omega
  ·split at a
   ·omega
   ·exact a
 have c:=(yK z.shifts 0 rfl b).2;have:=Cz z t z.shifts [] 0 rfl (by simpa using c) (λ_ h=>by cases h) (by omega);rw[vG,JA,rZ];exact this
def iQ:Nat->List Ent->List Ent->List Ent
 | 0,_,_=>[]
 | _+1,[],[]=>[]
 |f+1,[],y::ys=>y::iQ f [] ys
 |f+1,x::xs,[]=>x::iQ f xs []
 |f+1,x::xs,y::ys=>
  if eZ x.row y.row<0 then x::iQ f xs (y::ys)
  else if 0<eZ x.row y.row then y::iQ f (x::xs) ys
  else⟨x.row,x.count+y.count⟩::iQ f xs ys
def fK (xs a:List Ent):List Ent:=iQ (xs.length+a.length) xs a
def uE (C:Int)(l:List Ent):Prop:= ∀x∈l, -C<=x.count/\x.count<=C
theorem kw: ∀f xs a,xs.length+a.length<=f->iQ f xs a=iQ (xs.length+a.length) xs a
 | 0,xs,a,h=>by rw[show xs.length+a.length=0 from by omega]
 |f+1,[],[],_=>by simp[iQ]
 |f+1,[],y::a,h=>by
  simp only[List.length_nil,List.length_cons,Nat.zero_add]at h⊢;rw[iQ,iQ,kw f [] a (by simp;omega)];simp
 |f+1,x::xs,[],h=>by
  simp only[List.length_nil,List.length_cons,Nat.add_zero]at h⊢;rw[iQ,iQ,kw f xs [] (by simp;omega)];simp
 |f+1,x::xs,y::a,h=>by
  simp only[List.length_cons]at h⊢;rw[show xs.length+1+(a.length+1)=(xs.length+(a.length+1))+1 from by omega,iQ,iQ];rw[kw f xs (y::a) (by simp;omega),kw f (x::xs) a (by simp;omega),kw f xs a (by omega)];rw[kw (xs.length+(a.length+1)) (x::xs) a (by simp;omega),kw (xs.length+(a.length+1)) xs a (by omega)];simp
theorem uQ:fK [] []=[]:=rfl
theorem nD (y:Ent)(a:List Ent):fK [] (y::a)=y::fK [] a:=by
 unfold fK;simp only[List.length_nil,List.length_cons,Nat.zero_add];rw[iQ]
theorem oL (x:Ent)(xs:List Ent):fK (x::xs) []=x::fK xs []:=by
 unfold fK;simp only[List.length_nil,List.length_cons,Nat.add_zero];rw[iQ]
theorem oK (x y:Ent)(xs a:List Ent):fK (x::xs) (y::a)=
  if eZ x.row y.row<0 then x::fK xs (y::a) else if 0<eZ x.row y.row then y::fK (x::xs) a else⟨x.row,x.count+y.count⟩::fK xs a:=by
 unfold fK;simp only[List.length_cons];rw[show xs.length+1+(a.length+1)=(xs.length+(a.length+1))+1 from by omega,iQ];rw[kw (xs.length+(a.length+1)) (x::xs) a (by simp;omega),kw (xs.length+(a.length+1)) xs a (by omega)];simp
theorem nW: ∀n xs a,xs.length+a.length<=n->(fK xs a).length<=xs.length+a.length
 | 0,xs,a,h=>by
  rw[List.eq_nil_of_length_eq_zero (show xs.length=0 by omega),List.eq_nil_of_length_eq_zero (show a.length=0 by omega)];simp[uQ]
 |n+1,[],[],_=>by simp[uQ]
 |n+1,[],y::a,h=>by
  have:=nW n [] a (by simp at h⊢;omega);rw[nD];simp at*;omega
 |n+1,x::xs,[],h=>by
  have:=nW n xs [] (by simp at h⊢;omega);rw[oL];simp at*;omega
 |n+1,x::xs,y::a,h=>by
  have b:=nW n xs (y::a) (by simp at h⊢;omega);have c:=nW n (x::xs) a (by simp at h⊢;omega);have d:=nW n xs a (by simp at h⊢;omega);rw[oK]
  split
  ·simp at*;omega
  ·split
   ·simp at*;omega
   ·simp at*;omega
theorem nU {C D:Int}(d:0<=C)(e:0<=D): ∀n xs c,xs.length+c.length<=n->uE C xs->uE D c->uE (C+D) (fK xs c)
 | 0,xs,c,h,_,_=>by
  rw[List.eq_nil_of_length_eq_zero (show xs.length=0 by omega),List.eq_nil_of_length_eq_zero (show c.length=0 by omega)];intro x b;cases b
 |n+1,[],[],_,_,_=>by intro x b;cases b
 |n+1,[],y::c,h,b,hy=>by
  rw[nD];have f:=nU d e n [] c (by simp at h⊢;omega) b (λz a=>hy z (List.mem_cons_of_mem _ a));intro z a;cases a with
  |head=>have:=hy y (List.mem_cons_self ..);omega
  |tail _ a=>exact f z a
 |n+1,x::xs,[],h,b,hy=>by
  rw[oL];have f:=nU d e n xs [] (by simp at h⊢;omega) (λz a=>b z (List.mem_cons_of_mem _ a)) hy;intro z a;cases a with
  |head=>have:=b x (List.mem_cons_self ..);omega
  |tail _ a=>exact f z a
 |n+1,x::xs,y::c,h,b,hy=>by
  have k:=b x (List.mem_cons_self ..);have l:=hy y (List.mem_cons_self ..);have g:=nU d e n xs (y::c) (by simp at h⊢;omega) (λz a=>b z (List.mem_cons_of_mem _ a)) hy;have i:=nU d e n (x::xs) c (by simp at h⊢;omega) b (λz a=>hy z (List.mem_cons_of_mem _ a));have j:=nU d e n xs c (by simp at h⊢;omega) (λz a=>b z (List.mem_cons_of_mem _ a)) (λz a=>hy z (List.mem_cons_of_mem _ a));rw[oK]
  split
  ·intro z a;cases a with
   |head=>omega
   |tail _ a=>exact g z a
  ·split
   ·intro z a;cases a with
    |head=>omega
    |tail _ a=>exact i z a
   ·intro z a;cases a with
    |head=>simp only;omega
    |tail _ a=>exact j z a
def lq:Nat->List Ent->List Ent
 | 0,l=>l
 |f+1,l=>if l.length<2 then l else fK (lq f (l.take (l.length / 2))) (lq f (l.drop (l.length / 2)))
def iO (l:List Ent):List Ent:=lq l.length l
theorem uV (m:Nat)(l:List Ent)(h:¬l.length<2):lq (m+1) l=fK (lq m (l.take (l.length / 2))) (lq m (l.drop (l.length / 2))):=by rw[lq,if_neg h]
theorem su: ∀n (l:List Ent),l.length<=n-> ∀f,l.length<=f->lq f l=lq l.length l
 | 0,l,h,f,_=>by
  rw[List.eq_nil_of_length_eq_zero (show l.length=0 by omega)];cases f with
  |zero=>rfl
  |succ f=>rw[lq];rfl
 |n+1,l,h,f,hf=>by
  by_cases a:l.length<2
  ·match l,a,f,hf with
   | [],_,0,_=>rfl
   | [],_,f+1,_=>rw[lq];rfl
   | [x],_,f+1,_=>rw[lq];rfl
   |x::y::t,h,_,_=>simp at h;omega
  ·obtain⟨m,i⟩: ∃m,l.length=m+1:=⟨l.length-1,by omega⟩;obtain⟨k,rfl⟩: ∃k,f=k+1:=⟨f-1,by omega⟩;have d:(l.take (l.length / 2)).length<=m:=by rw[List.length_take];omega
   have g:(l.drop (l.length / 2)).length<=m:=by rw[List.length_drop];omega
   have e:lq l.length l=lq (m+1) l:=congrArg (λn=>lq n l) i;rw[e,uV k l a,uV m l a];have b:=su n (l.take (l.length / 2)) (by omega);have c:=su n (l.drop (l.length / 2)) (by omega);rw[b k (by omega),c k (by omega),b m d,c m g]
theorem qE {l:List Ent}(h:l.length<2):iO l=l:=by
 match l,h with
 | [],_=>rfl
 | [x],_=>rfl
 |x::y::t,h=>simp at h;omega
theorem sw {l:List Ent}(h:¬l.length<2):iO l=fK (iO (l.take (l.length / 2))) (iO (l.drop (l.length / 2))):=by
 obtain⟨m,c⟩: ∃m,l.length=m+1:=⟨l.length-1,by omega⟩;have a:(l.take (l.length / 2)).length<=m:=by rw[List.length_take];omega
 have b:(l.drop (l.length / 2)).length<=m:=by rw[List.length_drop];omega
 have e:lq l.length l=lq (m+1) l:=congrArg (λn=>lq n l) c;unfold iO;rw[e,uV m l h,su m _ a m a,su m _ b m b]
theorem rA: ∀n (l:List Ent),l.length<=n->(iO l).length<=l.length
 | 0,l,h=>by rw[List.eq_nil_of_length_eq_zero (show l.length=0 by omega)];simp[iO,lq]
 |n+1,l,h=>by
  by_cases a:l.length<2
  ·rw[qE a];omega
  ·rw[sw a];have b:=rA n (l.take (l.length / 2)) (by rw[List.length_take];omega);have c:=rA n (l.drop (l.length / 2)) (by rw[List.length_drop];omega);have d:=nW _ (iO (l.take (l.length / 2))) (iO (l.drop (l.length / 2))) (Nat.le_refl _);rw[List.length_take]at b;rw[List.length_drop]at c;omega
theorem uz {C:Int}(b:0<=C): ∀n (l:List Ent),l.length<=n->uE C l->uE (C*(l.length:Int)) (iO l)
 | 0,l,h,_=>by
  rw[List.eq_nil_of_length_eq_zero (show l.length=0 by omega)];intro x a;cases a
 |n+1,l,h,hb=>by
  by_cases e:l.length<2
  ·rw[qE e];intro x a;have d:=hb x a;have c:l.length=1:=by have:=List.length_pos_of_mem a;omega
   simp[c];omega
  ·rw[sw e];have d:(l.take (l.length / 2)).length=l.length / 2:=by rw[List.length_take];omega
   have c:(l.drop (l.length / 2)).length=l.length-l.length / 2:=by rw[List.length_drop]
   have b1:=uz b n (l.take (l.length / 2)) (by omega) (λx a=>hb x (List.mem_of_mem_take a));have b2:=uz b n (l.drop (l.length / 2)) (by omega) (λx a=>hb x (List.mem_of_mem_drop a));rw[d]at b1;rw[c]at b2;have:=nU (Int.mul_nonneg b (by omega)) (Int.mul_nonneg b (by omega)) _ _ _ (Nat.le_refl _) b1 b2;rw[<-Int.mul_add]at this;rw[show((l.length / 2:Nat):Int)+((l.length-l.length / 2:Nat):Int)=(l.length:Int) from by omega]at this;exact this
def iE (l:List Ent):List Ent:=l.filter λx=>!(x.count==0)
def iN:Nat->List Ent->Bool
 | _,[]=>false
 |m,x::l=>if x.count=0 then iN m l else(decide (x.count < -65536) || decide (65536<x.count) || decide (m=4096)) || iN (m+1) l
structure Total {α:Type} (c:α->α->Int):Prop where
 zero: ∀a b,c a b=0↔a=b
 anti: ∀a b,c a b<0↔0<c b a
 trans: ∀a b d,c a b<0->c b d<0->c a d<0
theorem Total.self {α:Type}{c:α->α->Int}(h:Total c)(a:α):c a a=0:=(h.zero a a).2 rfl
theorem Total.lt_of {α:Type}{c:α->α->Int}(h:Total c){a b:α}(d:¬c a b<0)(e:¬c a b=0):c b a<0:=(h.anti b a).2 (by omega)
theorem Lr {a b:Int}:kW a b<0↔a<b:=by rw[kW];(repeat' split)<;>omega
theorem xY {a b:Int}:kW a b=0↔a=b:=by rw[kW];(repeat' split)<;>omega
theorem wF: ∀l:List UInt8,Op.bytesLess l l=false
 | []=>rfl
 |x::l=>by simp[Op.bytesLess,wF l]
theorem FU {x y:UInt8}{l m:List UInt8}:Op.bytesLess (x::l) (y::m)=true↔x.toNat<y.toNat\/(x=y/\Op.bytesLess l m=true):=by
 simp only[Op.bytesLess,Bool.or_eq_true,Bool.and_eq_true,decide_eq_true_eq,beq_iff_eq];exact Iff.rfl
theorem yx: ∀l m n:List UInt8,Op.bytesLess l m=true->Op.bytesLess m n=true->Op.bytesLess l n=true
 | _,_,[],_,h=>by simp[Op.bytesLess]at h
 | [],_,_::_,_,_=>rfl
 | _::_,[],_::_,h,_=>by simp[Op.bytesLess]at h
 |x::l,y::m,z::n,h,a=>by
  rw[FU]at h a⊢;rcases h with h|⟨rfl,h⟩
  ·rcases a with a|⟨rfl,a⟩
   ·exact .inl (by omega)
   ·exact .inl h
  ·rcases a with a|⟨rfl,a⟩
   ·exact .inl a
   ·exact .inr ⟨rfl,yx l m n h a⟩
theorem Iy: ∀(l m:List UInt8),Op.bytesLess l m=false->Op.bytesLess m l=false->l=m
 | [],[]=>λ_ _=>rfl
 | [],_::_=>λh _=>by simp[Op.bytesLess]at h
 | _::_,[]=>λ_ h=>by simp[Op.bytesLess]at h
 |x::l,y::m=>λh c=>by
  have a:¬Op.bytesLess (x::l) (y::m)=true:=by rw[h];simp
  have b:¬Op.bytesLess (y::m) (x::l)=true:=by rw[c];simp
  rw[FU]at a b;have e:x=y:=UInt8.toNat_inj.1 (by omega);subst e;rw[Iy l m (by cases q:Op.bytesLess l m;rfl;exact absurd (.inr ⟨rfl,q⟩) a) (by cases q:Op.bytesLess m l;rfl;exact absurd (.inr ⟨rfl,q⟩) b)]
theorem ba_eq {a b:ByteArray}(h:a.toList=b.toList):a=b:=by
 rw[ByteArray.toList_eq,ByteArray.toList_eq]at h;obtain⟨⟨a⟩⟩:=a;obtain⟨⟨b⟩⟩:=b;simp at h;rw[h]
theorem yD {a b:ByteArray}:kL a b<0↔Op.bytesLess a.toList b.toList=true:=by
 rw[kL]
 split
 ·simp_all
 ·split<;>simp_all
theorem um {a b:ByteArray}:kL a b=0↔a=b:=by
 rw[kL]
 split
 ·rename_i h;constructor
  ·intro q;omega
  ·intro q;rw[q,wF]at h;cases h
 ·split
  ·rename_i h;exact⟨λ_=>ba_eq h,λ_=>rfl⟩
  ·rename_i h;exact⟨λq=>absurd q (by omega),λq=>absurd (by rw[q]) h⟩
theorem uA:Total kL:=by
 refine⟨λ_ _=>um,λa b=>?_,λa b d h g=>?_⟩
 ·constructor
  ·intro h;have c:¬kL b a<0:=λq=>by
    have:=yx _ _ _ (yD.1 h) (yD.1 q);rw[wF]at this;cases this
   have f:¬kL b a=0:=λq=>by
    rw[um]at q;subst q;rw[um.2 rfl]at h;omega
   omega
  ·intro h;by_cases q:kL a b<0
   ·exact q
   ·have c:Op.bytesLess a.toList b.toList=false:=by cases e:Op.bytesLess a.toList b.toList;rfl;exact absurd (yD.2 e) q
    have f:Op.bytesLess b.toList a.toList=false:=by cases e:Op.bytesLess b.toList a.toList;rfl;have:=yD.2 e;omega
    have:=ba_eq (Iy _ _ c f);subst this;rw[um.2 rfl]at h;omega
 ·exact yD.2 (yx _ _ _ (yD.1 h) (yD.1 g))
theorem FY {a b:Val}:fV a b<0↔a.kind<b.kind\/(a.kind=b.kind/\(a.num<b.num\/(a.num=b.num/\kL a.str b.str<0))):=by
 rw[fV];have c:=@xY a.kind b.kind;have d:=@xY a.num b.num;have e:=@Lr a.kind b.kind;have f:=@Lr a.num b.num
 split
 ·rename_i h;constructor<;>intro q<;>omega
 ·split
  ·constructor<;>intro q<;>omega
  ·constructor
   ·intro q;exact .inr ⟨by omega,.inr ⟨by omega,q⟩⟩
   ·intro q;omega
theorem rQ {a b:Val}:fV a b=0↔a=b:=by
 obtain⟨k,n,s⟩:=a;obtain⟨f,n',i⟩:=b;rw[fV];have c:=@xY k f;have d:=@xY n n';have e:=@um s i;simp only
 split
 ·rename_i h;exact⟨λq=>absurd q h,λq=>by injection q with q;exact absurd (c.2 q) h⟩
 ·split
  ·rename_i h;exact⟨λq=>absurd q h,λq=>by injection q with q q1;exact absurd (d.2 q1) h⟩
  ·rename_i g h;constructor
   ·intro q;rw[c.1 (by omega),d.1 (by omega),e.1 q]
   ·intro q;injection q with _ _ q;exact e.2 q
theorem pO:Total fV:=by
 refine⟨λ_ _=>rQ,λa b=>?_,λa b d h j=>?_⟩
 ·have g: ∀a b:Val,fV a b<0->0<fV b a:=λa b h=>by
   rw[FY]at h;have m:¬fV b a<0:=by
    rw[FY];intro q;have:kL a.str b.str<0->kL b.str a.str<0->False:=λp r=>by have:=(uA.anti _ _).1 p;omega
    rcases h with h|⟨h,h|⟨f,h⟩⟩<;>rcases q with q|⟨q,q|⟨l,q⟩⟩<;>first|omega|exact this h q
   have f:¬fV b a=0:=by
    rw[rQ];rintro rfl;have:=(uA.zero b.str b.str).2 rfl;rcases h with h|⟨_,h|⟨_,h⟩⟩<;>omega
   omega
  constructor
  ·exact g a b
  ·intro h;by_cases q:fV a b<0
   ·exact q
   ·have f:¬fV a b=0:=by
     rw[rQ];rintro rfl;rw[rQ.2 rfl]at h;omega
    exfalso;have i:¬fV b a<0:=by omega
    rw[FY]at q i;rcases Int.lt_trichotomy a.kind b.kind with e|e|e
    ·exact q (.inl e)
    ·rcases Int.lt_trichotomy a.num b.num with c|c|c
     ·exact q (.inr ⟨e,.inl c⟩)
     ·by_cases c1:kL a.str b.str<0
      ·exact q (.inr ⟨e,.inr ⟨c,c1⟩⟩)
      ·by_cases c2:kL a.str b.str=0
       ·apply f;rw[rQ];obtain⟨k,n,s⟩:=a;obtain⟨o,n',t⟩:=b;rw[um]at c2;simp only at e c c2;rw[e,c,c2]
       ·exact i (.inr ⟨e.symm,.inr ⟨c.symm,uA.lt_of c1 c2⟩⟩)
     ·exact i (.inr ⟨e.symm,.inl c⟩)
    ·exact i (.inl e)
 ·rw[FY]at h j⊢;have:=uA.trans a.str b.str d.str;rcases h with h|⟨h,h|⟨f,h⟩⟩<;>rcases j with q|⟨q,q|⟨l,q⟩⟩
  all_goals first|exact .inl (by omega)|exact .inr ⟨by omega,.inl (by omega)⟩|exact .inr ⟨by omega,.inr ⟨by omega,this h q⟩⟩
theorem iG: ∀{a b:List Val},eZ a b=0↔a=b
 | [],[]=>by simp[eZ]
 | [],_::_=>by simp[eZ]
 | _::_,[]=>by simp[eZ]
 |x::l,y::m=>by
  have c:=@iG l m;have h:=@rQ x y;rw[eZ]
  split
  ·rename_i g;exact⟨λq=>absurd q g,λq=>by injection q with q;exact absurd (h.2 q) g⟩
  ·rename_i g;rw[c,h.1 (by omega)];simp
theorem Ka {x y:Val}{l m:List Val}:eZ (x::l) (y::m)<0↔fV x y<0\/(x=y/\eZ l m<0):=by
 have h:=@rQ x y;rw[eZ]
 split
 ·rename_i g;exact⟨λq=>.inl q,λq=>by rcases q with q|⟨q,_⟩;exact q;exact absurd (h.2 q) g⟩
 ·rename_i g;exact⟨λq=>.inr ⟨h.1 (by omega),q⟩,λq=>by rcases q with q|⟨_,q⟩;omega;exact q⟩
theorem BD: ∀{a b:List Val},eZ a b<0↔0<eZ b a
 | [],[]=>by simp[eZ]
 | [],_::_=>by simp[eZ]
 | _::_,[]=>by simp[eZ]
 |x::l,y::m=>by
  have f:=@BD l m;have h:=pO.anti x y;have c:=pO.zero x y;have d:=pO.zero y x;rw[eZ,eZ];by_cases e:x=y
  ·subst e;rw[if_neg (by rw[pO.self];simp),if_neg (by rw[pO.self];simp)];exact f
  ·rw[if_pos (λq=>e (c.1 q)),if_pos (λq=>e (d.1 q).symm)];exact h
theorem pY: ∀{a b d:List Val},eZ a b<0->eZ b d<0->eZ a d<0
 | _,[],[],_,h=>by simp[eZ]at h
 | _,_::_,[],_,h=>by simp[eZ]at h
 | [],_,_::_,_,_=>by simp[eZ]
 | _::_,[],_::_,h,_=>by simp[eZ]at h
 |x::l,y::m,z::n,h,c=>by
  rw[Ka]at h c⊢;rcases h with h|⟨rfl,h⟩
  ·rcases c with c|⟨rfl,c⟩
   ·exact .inl (pO.trans _ _ _ h c)
   ·exact .inl h
  ·rcases c with c|⟨rfl,c⟩
   ·exact .inl c
   ·exact .inr ⟨rfl,pY h c⟩
theorem FD:Total eZ:=⟨λ_ _=>iG,λ_ _=>BD,λ_ _ _=>pY⟩
def cnt:List Ent->List Val->Int
 | [],_=>0
 |x::l,r=>(if eZ x.row r=0 then x.count else 0)+cnt l r
def lD (l:List Ent):Prop:=l.Pairwise λx y=>eZ x.row y.row<0
def Lp (l:List Ent):Prop:= ∀x∈l,x.count≠0
theorem oD (l m:List Ent)(r:List Val):cnt (l++m) r=cnt l r+cnt m r:=by
 induction l with
 |nil=>simp[cnt]
 |cons x l a=>rw[List.cons_append,cnt,cnt,a];omega
theorem lS {l:List Ent}{r:List Val}(h: ∀x∈l,eZ x.row r≠0):cnt l r=0:=by
 induction l with
 |nil=>rfl
 |cons x l b=>rw[cnt,if_neg (h x (by simp)),b λy a=>h y (by simp[a])];rfl
theorem lD.tail {x:Ent}{l:List Ent}(h:lD (x::l)):lD l:=(List.pairwise_cons.1 h).2
theorem lD.head {x:Ent}{l:List Ent}(h:lD (x::l)): ∀y∈l,eZ x.row y.row<0:=(List.pairwise_cons.1 h).1
theorem lD.filter {l:List Ent}(h:lD l)(p:Ent->Bool):lD (l.filter p):=List.Pairwise.filter p h
theorem lD.head_zero {x:Ent}{l:List Ent}(h:lD (x::l)):cnt l x.row=0:=
 lS λy c q=>by
  have a:=h.head y c;have b:=iG.1 q;rw[b,iG.2 rfl]at a;omega
theorem lD.mem {l:List Ent}(h:lD l){x:Ent}(a:x∈l):cnt l x.row=x.count:=by
 induction l with
 |nil=>cases a
 |cons y l b=>
  rw[cnt];rcases List.mem_cons.1 a with rfl|a
  ·rw[if_pos (iG.2 rfl),h.head_zero];omega
  ·have c:=h.head x a;rw[if_neg (by omega),b h.tail a];omega
theorem Bv: ∀{l m:List Ent},lD l->lD m->Lp l->Lp m->(∀r,cnt l r=cnt m r)->l=m
 | [],[],_,_,_,_,_=>rfl
 | [],y::m,_,hm,_,hz,h=>by
  have:=h y.row;rw[hm.mem (by simp),cnt]at this;exact absurd this.symm (hz y (by simp))
 |x::l,[],hl,_,hz,_,h=>by
  have:=h x.row;rw[hl.mem (by simp),cnt]at this;exact absurd this (hz x (by simp))
 |x::l,y::m,hl,hm,hz,hz',h=>by
  have i:=hl.mem (x:=x) (by simp);have j:=hm.mem (x:=y) (by simp);have n:¬eZ x.row y.row<0:=λq=>by
   have:cnt (y::m) x.row=0:=lS λz f e=>by
    have e:=iG.1 e;rcases List.mem_cons.1 f with rfl|f
    ·rw[e,iG.2 rfl]at q;omega
    ·have:=pY q (hm.head z f);rw[e,iG.2 rfl]at this;omega
   rw[<-h,i]at this;exact hz x (by simp) this
  have o:¬eZ y.row x.row<0:=λq=>by
   have:cnt (x::l) y.row=0:=lS λz f e=>by
    have e:=iG.1 e;rcases List.mem_cons.1 f with rfl|f
    ·rw[e,iG.2 rfl]at q;omega
    ·have:=pY q (hl.head z f);rw[e,iG.2 rfl]at this;omega
   rw[h,j]at this;exact hz' y (by simp) this
  have e:x.row=y.row:=by
   by_cases q:eZ x.row y.row=0
   ·exact iG.1 q
   ·exact absurd (FD.lt_of n q) o
  have g:x.count=y.count:=by rw[<-i,<-j,h,e]
  have k:x=y:=by
   obtain⟨a,b⟩:=x;obtain⟨c,d⟩:=y;simp only at e g;rw[e,g]
  subst k;rw[Bv hl.tail hm.tail (λz q=>hz z (by simp[q])) (λz q=>hz' z (by simp[q])) λr=>by
   have:=h r;rw[cnt,cnt]at this;omega]
theorem jy {P:List Val->Prop}: ∀f xs d,(∀x∈xs,P x.row)->(∀x∈d,P x.row)-> ∀x∈iQ f xs d,P x.row
 | 0,_,_=>λ_ _ x a=>by simp[iQ]at a
 |f+1,[],[]=>λ_ _ x a=>by simp[iQ]at a
 |f+1,[],y::d=>λh c x a=>by
  rw[iQ]at a;rcases List.mem_cons.1 a with rfl|a
  ·exact c _ (by simp)
  ·exact jy f [] d h (λz b=>c z (by simp[b])) x a
 |f+1,x::xs,[]=>λh c z a=>by
  rw[iQ]at a;rcases List.mem_cons.1 a with rfl|a
  ·exact h _ (by simp)
  ·exact jy f xs [] (λz b=>h z (by simp[b])) c z a
 |f+1,x::xs,y::d=>λh c z a=>by
  rw[iQ]at a
  split at a
  ·rcases List.mem_cons.1 a with rfl|a
   ·exact h _ (by simp)
   ·exact jy f xs (y::d) (λz b=>h z (by simp[b])) c z a
  ·split at a
   ·rcases List.mem_cons.1 a with rfl|a
    ·exact c _ (by simp)
    ·exact jy f (x::xs) d h (λz b=>c z (by simp[b])) z a
   ·rcases List.mem_cons.1 a with rfl|a
    ·exact h x (by simp)
    ·exact jy f xs d (λz b=>h z (by simp[b])) (λz b=>c z (by simp[b])) z a
theorem nT: ∀f xs a,xs.length+a.length<=f-> ∀r,cnt (iQ f xs a) r=cnt xs r+cnt a r
 | 0,xs,a=>λh r=>by
  have b:xs=[]:=List.length_eq_zero_iff.1 (by omega);have c:a=[]:=List.length_eq_zero_iff.1 (by omega);subst b c;rfl
 |f+1,[],[]=>λh r=>rfl
 |f+1,[],y::a=>λh r=>by
  simp only[iQ,cnt,nT f [] a (by simp at h⊢;omega) r];omega
 |f+1,x::xs,[]=>λh r=>by
  simp only[iQ,cnt,nT f xs [] (by simp at h⊢;omega) r];omega
 |f+1,x::xs,y::a=>λh r=>by
  simp only[List.length_cons]at h;rw[iQ]
  split
  ·rw[cnt,nT f xs (y::a) (by simp;omega),cnt,cnt];omega
  ·split
   ·rw[cnt,nT f (x::xs) a (by simp;omega),cnt,cnt];omega
   ·have e:x.row=y.row:=iG.1 (by omega);rw[cnt,nT f xs a (by omega),cnt,cnt,e];simp only
    split<;>omega
theorem nS: ∀f xs b,lD xs->lD b->lD (iQ f xs b)
 | 0,_,_=>λ_ _=>List.Pairwise.nil
 |f+1,[],[]=>λ_ _=>List.Pairwise.nil
 |f+1,[],y::b=>λh c=>by
  rw[iQ];exact List.pairwise_cons.2 ⟨jy (P:=λr=>eZ y.row r<0) f [] b (λz a=>by cases a) c.head,nS f [] b h c.tail⟩
 |f+1,x::xs,[]=>λh c=>by
  rw[iQ];exact List.pairwise_cons.2 ⟨jy (P:=λr=>eZ x.row r<0) f xs [] h.head (λz a=>by cases a),nS f xs [] h.tail c⟩
 |f+1,x::xs,y::b=>λh c=>by
  rw[iQ]
  split
  ·rename_i q;exact List.pairwise_cons.2 ⟨jy (P:=λr=>eZ x.row r<0) f xs (y::b) h.head (λz a=>by
    rcases List.mem_cons.1 a with rfl|a
    ·exact q
    ·exact pY q (c.head z a)),nS f xs (y::b) h.tail c⟩
  ·split
   ·rename_i _ q;have q:=BD.2 q;exact List.pairwise_cons.2 ⟨jy (P:=λr=>eZ y.row r<0) f (x::xs) b (λz a=>by
     rcases List.mem_cons.1 a with rfl|a
     ·exact q
     ·exact pY q (h.head z a)) c.head,nS f (x::xs) b h c.tail⟩
   ·have e:x.row=y.row:=iG.1 (by omega);exact List.pairwise_cons.2 ⟨jy (P:=λr=>eZ x.row r<0) f xs b h.head (λz a=>by rw[e];exact c.head z a),nS f xs b h.tail c.tail⟩
theorem zb (xs a:List Ent)(r:List Val):cnt (fK xs a) r=cnt xs r+cnt a r:=nT _ _ _ (Nat.le_refl _) r
theorem za {xs a:List Ent}(h:lD xs)(b:lD a):lD (fK xs a):=nS _ _ _ h b
theorem xc: ∀f (l:List Ent) (r:List Val),cnt (lq f l) r=cnt l r
 | 0,l,r=>rfl
 |f+1,l,r=>by
  rw[lq]
  split
  ·rfl
  ·rw[zb,xc f,xc f,<-oD,List.take_append_drop]
theorem wZ: ∀f (l:List Ent),l.length<=f->lD (lq f l)
 | 0,l,h=>by
  have a:l=[]:=List.length_eq_zero_iff.1 (by omega);subst a;exact List.Pairwise.nil
 |f+1,l,h=>by
  rw[lq]
  split
  ·rename_i q
   match l,q with
   | [],_=>exact List.Pairwise.nil
   | [x],_=>exact List.pairwise_singleton _ _
   | _::_::_,q=>exact absurd q (by simp)
  ·exact za (wZ f _ (by rw[List.length_take];omega)) (wZ f _ (by rw[List.length_drop];omega))
theorem mq (l:List Ent)(r:List Val):cnt (iO l) r=cnt l r:=xc _ _ _
theorem oo (l:List Ent):lD (iO l):=wZ _ _ (Nat.le_refl _)
theorem mh (l:List Ent)(r:List Val):cnt (iE l) r=cnt l r:=by
 induction l with
 |nil=>rfl
 |cons x l a=>
  rw[iE]at a⊢;by_cases q:x.count=0
  ·rw[List.filter_cons_of_neg (by simp[q]),a,cnt,q];simp
  ·rw[List.filter_cons_of_pos (by simp[q]),cnt,a,cnt]
theorem nQ {l:List Ent}(h:lD l):lD (iE l):=h.filter _
theorem lw (l:List Ent):Lp (iE l):=λx a=>by
 have:=(List.mem_filter.1 a).2;simpa using this
theorem AX {l:List Ent}: ∀x∈iE l,x∈l:=λx a=>(List.mem_filter.1 a).1
theorem Jg {l:List Ent}(h:Lp l):iE l=l:=List.filter_eq_self.2 λx a=>by simpa using h x a
theorem Di {xs a:List Ent}(h:lD a)(b: ∀r,cnt a r=cnt xs r):iE a=iE (iO xs):=
 Bv (nQ h) (nQ (oo xs)) (lw _) (lw _) λr=>by rw[mh,mh,mq,b]
theorem lZ: ∀(l:List Ent) (m:Nat),iN m (iE l)=iN m l
 | [],m=>rfl
 |x::l,m=>by
  have a:=lZ l;by_cases q:x.count=0
  ·rw[show iE (x::l)=iE l from List.filter_cons_of_neg (by simp[q]),a,iN,if_pos q]
  ·rw[show iE (x::l)=x::iE l from List.filter_cons_of_pos (by simp[q]),iN,iN,if_neg q,if_neg q,a]
def mE (xs:List Ent):Int×List Ent:=if iN 0 (iO xs)=true then(2,[]) else(0,iE (iO xs))
theorem Bw {xs a:List Ent}(h:lD a)(b: ∀r,cnt a r=cnt xs r):mE xs=if iN 0 a=true then(2,[]) else(0,iE a):=by
 rw[mE,<-lZ (iO xs),<-Di h b,lZ]
theorem Er {xs ys:List Ent}(h: ∀r,cnt xs r=cnt ys r):mE xs=mE ys:=by
 rw[Bw (xs:=xs) (oo ys) λr=>by rw[mq,h],mE]
theorem og: ∀(l:List Ent) (m:Nat),Lp l->m<=4096->(iN m l=false↔(∀x∈l, -65536<=x.count/\x.count<=65536)/\m+l.length<=4096)
 | [],m,_,hm=>by simp[iN];omega
 |x::l,m,h,hm=>by
  have e:x.count≠0:=h x (by simp);rw[iN,if_neg e];by_cases q:m=4096
  ·subst q;simp
  ·have g:=og l (m+1) (λy f=>h y (by simp[f])) (by omega);simp only[Bool.or_eq_false_iff,decide_eq_false_iff_not,g,List.mem_cons,List.length_cons,forall_eq_or_imp];constructor
   ·rintro⟨⟨⟨a,b⟩,_⟩,c,d⟩;exact⟨⟨⟨by omega,by omega⟩,c⟩,by omega⟩
   ·rintro⟨⟨⟨a,b⟩,c⟩,d⟩;exact⟨⟨⟨by omega,by omega⟩,q⟩,c,by omega⟩
theorem uo {α:Type}{f:Nat->α->Int}: ∀{l:List α} {k:Nat},eH f k l=0↔ ∀j x,l[j]?=some x->f (k+j) x=0
 | [],k=>by simp[eH]
 |y::l,k=>by
  have c:=@uo α f l (k+1);rw[eH];by_cases b:f k y=0
  ·rw[if_neg (by simpa using b),c];constructor
   ·intro h j x a;cases j with
    |zero=>simp at a;subst a;exact b
    |succ j=>have:=h j x (by simpa using a);rw[show k+(j+1)=k+1+j by omega];exact this
   ·intro h j x a;have:=h (j+1) x (by simpa using a);rw[show k+(j+1)=k+1+j by omega]at this;exact this
  ·rw[if_pos b];constructor
   ·intro h;exact absurd h b
   ·intro h;exact absurd (h 0 y (by simp)) b
theorem rF {b:List Ent}{i:Nat}{x:Ent}:iT b i x=0↔gy x=0/\x.count≠0/\(0<i->eZ (b.getD (i-1) default).row x.row<0):=by
 rw[iT];by_cases a:gy x=0
 ·rw[if_neg (by simpa using a)];by_cases d:x.count=0
  ·simp[a,d]
  ·rw[if_neg d];by_cases c:0<i/\0<=eZ (b.getD (i-1) default).row x.row
   ·rw[if_pos c];constructor
    ·intro q;omega
    ·rintro⟨_,_,q⟩;have:=q c.1;omega
   ·rw[if_neg c];simp only[true_iff];exact⟨a,d,λq=>by
     by_cases g:eZ (b.getD (i-1) default).row x.row<0
     ·exact g
     ·exact absurd ⟨q,by omega⟩ c⟩
 ·rw[if_pos a];simp[a]
theorem ve: ∀{l:List Ent},(∀j x y,l[j]?=some x->l[j+1]?=some y->eZ x.row y.row<0)->lD l
 | [],_=>List.Pairwise.nil
 | [x],_=>List.pairwise_singleton _ _
 |x::y::l,h=>by
  have d:=h 0 x y rfl rfl;have e:lD (y::l):=ve λj a b f hb=>h (j+1) a b (by simpa using f) (by simpa using hb);refine List.pairwise_cons.2 ⟨λz c=>?_,e⟩;rcases List.mem_cons.1 c with rfl|c
  ·exact d
  ·exact pY d (e.head z c)
theorem jR {b:List Ent}:fA b=0↔b.length<=4096/\(∀x∈b,gy x=0/\x.count≠0)/\lD b:=by
 rw[fA];by_cases e:4096<b.length
 ·rw[if_pos e];constructor
  ·intro q;omega
  ·rintro⟨q,_⟩;omega
 ·rw[if_neg e,uo];have k:b.length<=4096:=by omega
  constructor
  ·intro h;refine⟨k,λx a=>?_,ve λj x y a m=>?_⟩
   ·obtain⟨j,d⟩:=List.mem_iff_getElem?.1 a;have:=rF.1 (h j x d);exact⟨this.1,this.2.1⟩
   ·have:=(rF.1 (h (j+1) y m)).2.2 (by omega);rw[show(0+(j+1)-1)=j by omega,List.getD_eq_getElem?_getD,a]at this;exact this
  ·rintro⟨_,c,g⟩ j x a;have f:=List.mem_iff_getElem?.2 ⟨j,a⟩;refine rF.2 ⟨(c x f).1,(c x f).2,λd=>?_⟩;obtain⟨l,i⟩:=List.getElem?_eq_some_iff.1 a;have:=List.pairwise_iff_getElem.1 g (0+j-1) j (by omega) l (by omega);rw[i]at this;rw[List.getD_eq_getElem?_getD,List.getElem?_eq_getElem (by omega)];exact this
theorem vI {x:Ent}(h:gy x=0): -65536<=x.count/\x.count<=65536/\x.row.length<=12:=by
 rw[gy]at h
 split at h
 ·omega
 ·omega
theorem Iu {b:List Ent}(h:fA b=0):mE b=(0,b):=by
 obtain⟨f,c,e⟩:=jR.1 h;have d:Lp b:=λx a=>(c x a).2;rw[Bw e λ_=>rfl,if_neg,Jg d];have:=(og b 0 d (by omega)).2 ⟨λx a=>⟨(vI (c x a).1).1,(vI (c x a).1).2.1⟩,by omega⟩;rw[this];simp
theorem ug {P:List Val->Prop}: ∀f (l:List Ent),(∀x∈l,P x.row)-> ∀x∈lq f l,P x.row
 | 0,l,h=>h
 |f+1,l,h=>by
  rw[lq]
  split
  ·exact h
  ·exact jy _ _ _ (ug f _ λx a=>h x (List.mem_of_mem_take a)) (ug f _ λx a=>h x (List.mem_of_mem_drop a))
theorem uj {P:List Val->Prop}{xs:List Ent}(h: ∀x∈xs,P x.row): ∀x∈(mE xs).2,P x.row:=by
 rw[mE]
 split
 ·intro x a;cases a
 ·intro x a;exact ug _ xs h x (AX x a)
theorem Cs (xs:List Ent):(mE xs).1=0\/((mE xs).1=2/\(mE xs).2=[]):=by
 rw[mE];split<;>simp
theorem yu {xs:List Ent}(h:(mE xs).1=0)(r:List Val):cnt (mE xs).2 r=cnt xs r:=by
 rw[mE]at h⊢
 split
 ·rename_i q;rw[if_pos q]at h;cases h
 ·rw[mh,mq]
theorem nP {x:Ent}:gy x=0↔(-65536<=x.count/\x.count<=65536)/\x.row.length<=12/\ ∀v∈x.row,valid v=true:=by
 rw[gy]
 split
 ·rename_i h;constructor
  ·intro q;omega
  ·rintro⟨q,c,_⟩;omega
 ·rename_i h;rw[uo];constructor
  ·intro q;refine⟨by omega,by omega,λv b=>?_⟩;obtain⟨j,a⟩:=List.mem_iff_getElem?.1 b;have:=q j v a
   split at this
   ·assumption
   ·omega
  ·rintro⟨_,_,q⟩ j v a;rw[if_pos (q v (List.mem_iff_getElem?.2 ⟨j,a⟩))]
theorem xU {xs:List Ent}(h: ∀x∈xs,gy x=0):fA (mE xs).2=0:=by
 have b:=uj (P:=λr=>r.length<=12/\ ∀v∈r,valid v=true) (xs:=xs) λx a=>(nP.1 (h x a)).2;rw[mE]at b⊢
 split
 ·rfl
 ·rename_i q;rw[if_neg q]at b;have q:iN 0 (iE (iO xs))=false:=by rw[lZ];simpa using q
  obtain⟨c,d⟩:=(og _ 0 (lw _) (by omega)).1 q;exact jR.2 ⟨by simpa using d,λx a=>⟨nP.2 ⟨c x a,b x a⟩,lw _ x a⟩,nQ (oo _)⟩
def cntF:List Ent->List Val->Int
 | [],_=>0
 |x::l,r=>if eZ x.row r=0 then x.count else cntF l r
theorem lD.cntF {l:List Ent}(h:lD l)(r:List Val):Proofs.YthnelebakkggjaaGreatDoor.cntF l r=cnt l r:=by
 induction l with
 |nil=>rfl
 |cons x l a=>
  rw[Proofs.YthnelebakkggjaaGreatDoor.cntF,cnt];by_cases q:eZ x.row r=0
  ·rw[if_pos q,if_pos q];have:=h.head_zero;rw[iG.1 q]at this;omega
  ·rw[if_neg q,if_neg q,a h.tail];omega
end Go.Proofs.YthnelebakkggjaaGreatDoor
