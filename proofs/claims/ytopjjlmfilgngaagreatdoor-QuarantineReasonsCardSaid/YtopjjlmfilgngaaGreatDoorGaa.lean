/-
  How data lies in memory: a class 'Rep' (what cells of a world a datum reads as), with its instances for ints, bools, strings, slices and the structs of package api; its frame; and the road from the claim's own reading ('DataW.trod') to it. No program is in sight. Plain functions, no program in sight: the values, columns, rows, bags and relations of chapters 1, 5, 6 and 19, as both texts compute them. Plain functions, no program in sight: expressions (chapter 8), their types and values (chapter 9), zones and days (chapter 4), checked arithmetic (chapter 2), as both texts compute them. Plain functions, no program in sight: merging, sorting and normalizing lists of entries (chapter 6), as the reference does it. Plain law: the orders of strings, values and rows are total orders. No program is in sight. Plain law of bags: a bag is told by its counts; merging and sorting add counts; Normalize's answer depends on the counts alone. No program is in sight. Plain: the count that the first equal row has.
-/
import Derived.WalkKit
import Derived.Deep.Slices
namespace Go.Proofs.YtopjjlmfilgngaaGreatDoor
set_option linter.unusedVariables false
set_option linter.unusedSimpArgs false
open Go.RowKit Go.ChangeShapes Go.WideShapes
def Same (S:Nat->Prop)(w w':World):Prop:= ∀k,S k->w'.heap[k]?=w.heap[k]?
theorem Same.refl (S:Nat->Prop)(w:World):Same S w w:=λ_ _=>rfl
theorem Same.trans {S:Nat->Prop}{a b c:World}(h:Same S a b)(e:Same S b c):Same S a c:=λk d=>(e k d).trans (h k d)
theorem Same.sub {S T:Nat->Prop}{a b:World}(h:Same T a b)(hs: ∀k,S k->T k):Same S a b:=λk c=>h k (hs k c)
theorem Same.below {B:Nat}{w w':World}(h:Below B w w'):Same (· < B) w w':=λk a=>h.block k a
theorem Same.cell {S:Nat->Prop}{w w':World}(h:Same S w w'){a:Addr}(b:S a.block):w'.cell? a=w.cell? a:=World.cell?_of_block (w:=w) (h _ b)
class Rep (α:Type) where
 size:Nat
 rd:World->(Nat->Prop)->List Value->α->Prop
 len: ∀{w:World} {S:Nat->Prop} {cs:List Value} {a:α},rd w S cs a->cs.length=size
 keep: ∀{w w':World} {S:Nat->Prop} {cs:List Value} {a:α},Same S w w'->rd w S cs a->rd w' S cs a
 mono: ∀{w:World} {S T:Nat->Prop} {cs:List Value} {a:α},(∀k,S k->T k)->rd w S cs a->rd w T cs a
def jU (n:Int):Prop:= -9223372036854775808<=n/\n<=9223372036854775807
instance:Rep Int where
 size:=1
 rd _ _ cs n:=cs=[.int .i64 n]/\jU n
 len h:=by rw[h.1];rfl
 keep _ h:=h
 mono _ h:=h
instance:Rep Bool where
 size:=1
 rd _ _ cs b:=cs=[.bool b]
 len h:=by rw[h];rfl
 keep _ h:=h
 mono _ h:=h
instance:Rep ByteArray where
 size:=1
 rd _ _ cs s:=cs=[.string s]/\s.size<=9223372036854775807
 len h:=by rw[h.1];rfl
 keep _ h:=h
 mono _ h:=h
def At {α:Type}[Rep α](w:World)(S:Nat->Prop)(b off:Nat)(a:α):Prop:=
 ∃c:List Value,Rep.rd w S c a/\ ∀j,(d:j<c.length)->w.cell? ⟨b,off+j,none⟩=some c[j]
theorem At.keep {α:Type}[Rep α]{w w':World}{S:Nat->Prop}{b off:Nat}{a:α}(hb:S b)(hs:Same S w w')(h:At w S b off a):At w' S b off a:=by
 obtain⟨c,d,e⟩:=h;exact⟨c,Rep.keep hs d,λj f=>(hs.cell (a:=⟨b,off+j,none⟩) hb).trans (e j f)⟩
theorem At.mono {α:Type}[Rep α]{w:World}{S T:Nat->Prop}{b off:Nat}{a:α}(hs: ∀k,S k->T k)(h:At w S b off a):At w T b off a:=by
 obtain⟨c,d,e⟩:=h;exact⟨c,Rep.mono hs d,e⟩
def Sl {α:Type}[Rep α](w:World)(S:Nat->Prop)(A:Option Addr)(n c:Nat)(xs:List α):Prop:=
 xs.length=n/\n<=c/\c<=9223372036854775807/\(A=none->c=0)/\
  (0<n-> ∃b off,A=some ⟨b,off,none⟩/\S b/\ ∀i,(hi:i<xs.length)->At w S b (off+i*Rep.size α) xs[i])
section
variable {α:Type}[Rep α]{w w':World}{S T:Nat->Prop}{A:Option Addr}{n c:Nat}{xs:List α}
theorem Sl.keep (hs:Same S w w')(h:Sl w S A n c xs):Sl w' S A n c xs:=by
 refine⟨h.1,h.2.1,h.2.2.1,h.2.2.2.1,λd=>?_⟩;obtain⟨b,off,e,hb,hi⟩:=h.2.2.2.2 d;exact⟨b,off,e,hb,λi a=>(hi i a).keep hb hs⟩
theorem Sl.mono (hs: ∀k,S k->T k)(h:Sl w S A n c xs):Sl w T A n c xs:=by
 refine⟨h.1,h.2.1,h.2.2.1,h.2.2.2.1,λd=>?_⟩;obtain⟨b,off,e,hb,hi⟩:=h.2.2.2.2 d;exact⟨b,off,e,hs _ hb,λi a=>(hi i a).mono hs⟩
theorem Sl.len (h:Sl w S A n c xs):xs.length=n:=h.1
theorem Sl.nil_:Sl (α:=α) w S none 0 0 []:=⟨rfl,Nat.le_refl _,by omega,λ_=>rfl,λh=>absurd h (by omega)⟩
theorem Sl.empty (h:c<=9223372036854775807)(a:A=none->c=0):Sl (α:=α) w S A 0 c []:=⟨rfl,by omega,h,a,λh=>absurd h (by omega)⟩
end
instance {α:Type} [Rep α]:Rep (List α) where
 size:=1
 rd w S cs xs:= ∃A n c,cs=[.slice A n c]/\Sl w S A n c xs
 len h:=by obtain⟨A,n,c,rfl,_⟩:=h;rfl
 keep hs h:=by obtain⟨A,n,c,rfl,h⟩:=h;exact⟨A,n,c,rfl,h.keep hs⟩
 mono hs h:=by obtain⟨A,n,c,rfl,h⟩:=h;exact⟨A,n,c,rfl,h.mono hs⟩
def pq (P:Program)(t:TypeId)(α:Type)[Rep α]:Prop:=
 ∀(H:Type) (enc:TypeId×Value->H) (w:World) (c:Nat->Bool) (held:Bool) (fuel:Nat) (b:List Value) (y:DataW H×List MemPlace),
  DataW.trod enc P w 0 c held fuel t b=some y-> ∃a:α,Rep.rd w (· < w.heap.size) b a
section
variable {P:Program}{t e:TypeId}
theorem wf_i64 {n:Int}(h:(Lit.int .i64 n).wf=true):jU n:=by
 simp[Lit.wf,IntKind.min,IntKind.max,IntKind.signed,IntKind.bits]at h;unfold jU;omega
theorem uI (h:P.underlying t=some (.int .i64)):pq P t Int:=λ_ _ _ _ _ _ _ _ b=>by
 obtain⟨n,a,_,hw⟩:=DataW.trod_int h b;exact⟨n,a,wf_i64 hw⟩
theorem sH (h:P.underlying t=some .string):pq P t ByteArray:=λ_ _ _ _ _ _ _ _ b=>by
 obtain⟨s,a,_,hw⟩:=DataW.trod_string h b;exact⟨s,a,by unfold maxLen at hw;omega⟩
theorem lt_of_cell {w:World}{a:Addr}{v:Value}(h:w.cell? a=some v):a.block<w.heap.size:=block_lt_of_cell h
theorem uk {α:Type}[Rep α][Inhabited α](h:P.underlying t=some (.slice e))(W:P.cellsOf e=Rep.size α)(V:0<Rep.size α)(B:pq P e α):pq P t (List α):=λH enc w N held fuel R y M=>by
 rcases Go.Deep.open_slice h M with ⟨z,_⟩|⟨a,len,cap,m,n,D,Q,A,hb,F,G,J,s,hi⟩
 ·exact⟨[],none,0,0,z,Sl.nil_⟩
 ·have I:cap<=9223372036854775807:=by unfold maxLen at G;omega
  have U:len<=m:=by rw[J];split<;>omega
  have u: ∀i,i<len-> ∃x:α,∃c,w.cells? 0 (a.add (i*P.cellsOf e)) (P.cellsOf e)=some c/\Rep.rd w (· < w.heap.size) c x:=λi p=>by
   obtain⟨c,d,L⟩:=hi i (by omega);obtain⟨x,s⟩:=B H enc w N held n c _ L;exact⟨x,c,d,s⟩
  obtain⟨f,l⟩:=Go.Deep.choose_lt u;refine⟨(List.range len).map f,some a,len,cap,A,by simp,F,I,(λh=>by cases h),λr=>?_⟩;have K:a.spot=none:=by
   obtain⟨c,d,o⟩:=l 0 r;obtain⟨_,q,k⟩:=World.cells?_some d;have g:=k 0 (by omega);rw[List.getElem?_eq_getElem (by omega)]at g;have:=World.cell?_spot g;simpa[Addr.add] using this
  obtain⟨b,off,O⟩:=a;obtain rfl:O=none:=K;have v:b<w.heap.size:=by
   obtain⟨c,d,o⟩:=l 0 r;obtain⟨_,q,k⟩:=World.cells?_some d;have g:=k 0 (by omega);rw[List.getElem?_eq_getElem (by omega)]at g;have:=lt_of_cell g;simpa[Addr.add] using this
  refine⟨b,off,rfl,v,λi C=>?_⟩;have p:i<len:=by simpa using C
  obtain⟨c,d,o⟩:=l i p;obtain⟨_,q,k⟩:=World.cells?_some d;refine⟨c,by simpa using o,λj E=>?_⟩;have:=k j (by omega);rw[List.getElem?_eq_getElem E]at this;rw[<-this]
  congr 1
  unfold Addr.add;by_cases S:i*P.cellsOf e=0<;>by_cases T:j=0<;>simp_all[Nat.add_assoc]
end
structure Val where
 kind:Int
 num:Int
 str:ByteArray
structure Col where
 name:ByteArray
 kind:Int
 nullable:Bool
structure Ent where
 row:List Val
 count:Int
structure Rel where
 name:ByteArray
 columns:List Col
 keys:List (List ByteArray)
 rows:List Ent
structure Shift where
 at_:Int
 offset:Int
structure Zone where
 name:ByteArray
 offset:Int
 shifts:List Shift
structure Node where
 op:Int
 value:Val
 name:ByteArray
 arity:Int
instance:Inhabited Val:=⟨⟨0,0,ByteArray.empty⟩⟩
instance:Inhabited Col:=⟨⟨ByteArray.empty,0,false⟩⟩
instance:Inhabited Ent:=⟨⟨[],0⟩⟩
instance:Inhabited Shift:=⟨⟨0,0⟩⟩
instance:Inhabited Zone:=⟨⟨ByteArray.empty,0,[]⟩⟩
instance:Inhabited Node:=⟨⟨0,default,ByteArray.empty,0⟩⟩
def Str (s:ByteArray):Prop:=s.size<=9223372036854775807
def Val.ok (v:Val):Prop:=jU v.kind/\jU v.num/\Str v.str
def Col.ok (c:Col):Prop:=Str c.name/\jU c.kind
def Fq (a:Int):Prop:=a=1\/a=12\/a=13
def Node.ok (n:Node):Prop:=jU n.op/\n.value.ok/\Str n.name/\jU n.arity/\Fq n.op
def Val.cells (v:Val):List Value:=[.int .i64 v.kind,.int .i64 v.num,.string v.str]
def Col.cells (c:Col):List Value:=[.string c.name,.int .i64 c.kind,.bool c.nullable]
def Shift.cells (s:Shift):List Value:=[.int .i64 s.at_,.int .i64 s.offset]
def Node.cells (n:Node):List Value:=[.int .i64 n.op,.int .i64 n.value.kind,.int .i64 n.value.num,.string n.value.str,.string n.name,.int .i64 n.arity]
instance:Rep Val where
 size:=3
 rd _ _ cs v:=cs=v.cells/\v.ok
 len h:=by rw[h.1];rfl
 keep _ h:=h
 mono _ h:=h
instance:Rep Col where
 size:=3
 rd _ _ cs v:=cs=v.cells/\v.ok
 len h:=by rw[h.1];rfl
 keep _ h:=h
 mono _ h:=h
instance:Rep Shift where
 size:=2
 rd _ _ cs v:=cs=v.cells/\jU v.at_/\jU v.offset
 len h:=by rw[h.1];rfl
 keep _ h:=h
 mono _ h:=h
instance:Rep Node where
 size:=6
 rd _ _ cs v:=cs=v.cells/\v.ok
 len h:=by rw[h.1];rfl
 keep _ h:=h
 mono _ h:=h
instance:Rep Ent where
 size:=2
 rd w S cs x:= ∃A n c,cs=[.slice A n c,.int .i64 x.count]/\Sl w S A n c x.row/\jU x.count
 len h:=by obtain⟨A,n,c,rfl,_⟩:=h;rfl
 keep hs h:=by obtain⟨A,n,c,rfl,h,hc⟩:=h;exact⟨A,n,c,rfl,h.keep hs,hc⟩
 mono hs h:=by obtain⟨A,n,c,rfl,h,hc⟩:=h;exact⟨A,n,c,rfl,h.mono hs,hc⟩
instance:Rep Zone where
 size:=3
 rd w S cs x:= ∃A n c,cs=[.string x.name,.int .i64 x.offset,.slice A n c]/\Sl w S A n c x.shifts/\Str x.name/\jU x.offset
 len h:=by obtain⟨A,n,c,rfl,_⟩:=h;rfl
 keep hs h:=by obtain⟨A,n,c,rfl,h,hc⟩:=h;exact⟨A,n,c,rfl,h.keep hs,hc⟩
 mono hs h:=by obtain⟨A,n,c,rfl,h,hc⟩:=h;exact⟨A,n,c,rfl,h.mono hs,hc⟩
instance:Rep Rel where
 size:=4
 rd w S cs x:= ∃A n c A' n' c' A'' n'' c'',cs=[.string x.name,.slice A n c,.slice A' n' c',.slice A'' n'' c'']/\Sl w S A n c x.columns/\Sl w S A' n' c' x.keys/\Sl w S A'' n'' c'' x.rows/\Str x.name
 len h:=by obtain⟨_,_,_,_,_,_,_,_,_,rfl,_⟩:=h;rfl
 keep hs h:=by obtain⟨A,n,c,A',n',c',A'',n'',c'',rfl,h1,h2,h3,h4⟩:=h;exact⟨A,n,c,A',n',c',A'',n'',c'',rfl,h1.keep hs,h2.keep hs,h3.keep hs,h4⟩
 mono hs h:=by obtain⟨A,n,c,A',n',c',A'',n'',c'',rfl,h1,h2,h3,h4⟩:=h;exact⟨A,n,c,A',n',c',A'',n'',c'',rfl,h1.mono hs,h2.mono hs,h3.mono hs,h4⟩
section
variable {P:Program}{t:TypeId}
def lM (P:Program)(f:Field)(o:Nat)(β:Type)[Rep β]:Prop:=f.offset=o/\P.cellsOf f.type=Rep.size β/\pq P f.type β
theorem EL {α β δ γ:Type}[Rep α][Rep β][Rep δ][Rep γ]{c f1 e:Field}(h:P.underlying t=some (.struct #[c,f1,e]))(A:P.cellsOf t=Rep.size α+Rep.size β+Rep.size δ)(j:lM P c 0 α)(k:lM P f1 (Rep.size α) β)(m:lM P e (Rep.size α+Rep.size β) δ)(mk: ∀w S ca cb cd (a:α) (b:β) (d:δ),Rep.rd w S ca a->Rep.rd w S cb b->Rep.rd w S cd d-> ∃g:γ,Rep.rd w S (ca++cb++cd) g):pq P t γ:=λH enc w p held fuel f y v=>by
 obtain⟨xs,n,_,_,B,u,o⟩:=DataW.trod_struct h v
 match xs,u with
 | [y0,y1,y2],_=>
  have q:=o 0 c rfl;have r:=o 1 f1 rfl;have s:=o 2 e rfl;rw[j.1,j.2.1]at q;rw[k.1,k.2.1]at r;rw[m.1,m.2.1]at s;obtain⟨a,x⟩:=j.2.2 H enc w p held n _ y0 (by simpa using q);obtain⟨b,z⟩:=k.2.2 H enc w p held n _ y1 (by simpa using r);obtain⟨d,rd⟩:=m.2.2 H enc w p held n _ y2 (by simpa using s);obtain⟨g,rg⟩:=mk _ _ _ _ _ a b d x z rd;refine⟨g,?_⟩;have:f=(f.drop 0).take (Rep.size α)++(f.drop (Rep.size α)).take (Rep.size β)++(f.drop (Rep.size α+Rep.size β)).take (Rep.size δ):=by
   rw[List.drop_zero,<-List.take_add,List.take_of_length_le (l:=f.drop (Rep.size α+Rep.size β)) (by rw[List.length_drop];omega),List.take_append_drop]
  rw[this];exact rg
theorem Gj {α β δ ε γ:Type}[Rep α][Rep β][Rep δ][Rep ε][Rep γ]{c f1 e i:Field}(h:P.underlying t=some (.struct #[c,f1,e,i]))(E:P.cellsOf t=Rep.size α+Rep.size β+Rep.size δ+Rep.size ε)(m:lM P c 0 α)(o:lM P f1 (Rep.size α) β)(p:lM P e (Rep.size α+Rep.size β) δ)(q:lM P i (Rep.size α+Rep.size β+Rep.size δ) ε)(mk: ∀w S ca cb cd ce (a:α) (b:β) (d:δ) (x:ε),Rep.rd w S ca a->Rep.rd w S cb b->Rep.rd w S cd d->Rep.rd w S ce x-> ∃g:γ,Rep.rd w S (ca++cb++cd++ce) g):pq P t γ:=λH enc w k held fuel f y A=>by
 obtain⟨xs,n,_,_,F,z,j⟩:=DataW.trod_struct h A
 match xs,z with
 | [y0,y1,y2,y3],_=>
  have r:=j 0 c rfl;have s:=j 1 f1 rfl;have u:=j 2 e rfl;have v:=j 3 i rfl;rw[m.1,m.2.1]at r;rw[o.1,o.2.1]at s;rw[p.1,p.2.1]at u;rw[q.1,q.2.1]at v;obtain⟨a,B⟩:=m.2.2 H enc w k held n _ y0 (by simpa using r);obtain⟨b,C⟩:=o.2.2 H enc w k held n _ y1 (by simpa using s);obtain⟨d,rd⟩:=p.2.2 H enc w k held n _ y2 (by simpa using u);obtain⟨x,D⟩:=q.2.2 H enc w k held n _ y3 (by simpa using v);obtain⟨g,rg⟩:=mk _ _ _ _ _ _ a b d x B C rd D;refine⟨g,?_⟩;have:f=(f.drop 0).take (Rep.size α)++(f.drop (Rep.size α)).take (Rep.size β)++(f.drop (Rep.size α+Rep.size β)).take (Rep.size δ)++(f.drop (Rep.size α+Rep.size β+Rep.size δ)).take (Rep.size ε):=by
   rw[List.drop_zero,<-List.take_add,<-List.take_add,List.take_of_length_le (l:=f.drop (Rep.size α+Rep.size β+Rep.size δ)) (by rw[List.length_drop];omega),List.take_append_drop]
  rw[this];exact rg
variable {c f1 e i:Field}
theorem Jp (h:P.underlying t=some (.struct #[c,f1,e]))(m:P.cellsOf t=3)(j:lM P c 0 Int)(k:lM P f1 1 Int)(l:lM P e 2 ByteArray):pq P t Val:=
 EL h m j k l λ_ _ _ _ _ a b d f g rd=>⟨⟨a,b,d⟩,by rw[f.1,g.1,rd.1];rfl,f.2,g.2,rd.2⟩
end
def lZ (a b:Int):Int:=if a<b then -1 else if b<a then 1 else 0
def lI (a b:ByteArray):Int:=if Op.bytesLess a.toList b.toList=true then -1 else if a.toList=b.toList then 0 else 1
def iq (a b:Val):Int:=if lZ a.kind b.kind≠0 then lZ a.kind b.kind else if lZ a.num b.num≠0 then lZ a.num b.num else lI a.str b.str
def gq:List Val->List Val->Int
 | [],[]=>0
 | [],_::_=> -1
 | _::_,[]=>1
 |a::l,b::m=>if iq a b≠0 then iq a b else gq l m
def jI (s:ByteArray):Bool:=s.toList.isEmpty
def valid (v:Val):Bool:=
 if v.kind=0 then(v.num==0)&&jI v.str
 else if v.kind=1 then jI v.str&&(v.num==0 || v.num==1)
 else if v.kind=2 then jI v.str&&(decide (-1073741824<=v.num)&&decide (v.num<=1073741824))
 else if v.kind=3 then(v.num==0)&&decide (v.str.size<=64)
 else if v.kind=4 then jI v.str&&(decide (0<=v.num)&&decide (v.num<=575999999))
 else false
def jW (s:ByteArray)(i:Nat):Nat:=(s.data.toList.getD i 0).toNat
def lh (c:Nat)(i:Nat):Bool:=(decide (97<=c)&&decide (c<=122)) || (decide (0<i)&&(decide (c=95) || (decide (48<=c)&&decide (c<=57))))
def kE (s:ByteArray):Nat->Nat->Bool
 | 0,_=>true
 |b+1,i=>lh (jW s i) i&&kE s b (i+1)
def iY (s:ByteArray):Bool:=decide (s.size<=24)&&(kE s s.size 0&&decide (0<s.size))
def gV (name:ByteArray):Nat->List Col->Int
 | _,[]=> -1
 |k,c::l=>if c.name.toList==name.toList then k else gV name (k+1) l
def index (cols:List Col)(name:ByteArray):Int:=gV name 0 cols
def kP (cols:List Col)(i:Nat)(c:Col):Int:=
 if iY c.name=false then 4 else if c.kind<1\/4<c.kind then 7 else if index cols c.name<i then 6 else 0
def fQ {α:Type}(f:Nat->α->Int):Nat->List α->Int
 | _,[]=>0
 |k,x::l=>if f k x≠0 then f k x else fQ f (k+1) l
def gu (cols:List Col):Int:=if cols.length<1\/12<cols.length then 2 else fQ (kP cols) 0 cols
def ja (c:Col)(v:Val):Int:=
 if valid v=false then 8 else if (v.kind=0/\c.nullable=false)\/(v.kind≠0/\v.kind≠c.kind) then 7 else 0
def gF (cols:List Col)(row:List Val):Int:=
 if row.length≠cols.length then 8 else fQ (λi v=>ja (cols.getD i default) v) 0 row
def ib (x:Ent):Int:=
 if 12<x.row.length\/x.count < -65536\/65536<x.count then 2 else fQ (λ_ v=>if valid v then 0 else 8) 0 x.row
def jr (b:List Ent)(i:Nat)(x:Ent):Int:=
 if ib x≠0 then ib x else if x.count=0 then 8 else if 0<i/\0<=gq (b.getD (i-1) default).row x.row then 14 else 0
def gN (b:List Ent):Int:=if 4096<b.length then 2 else fQ (jr b) 0 b
def jJ (b:List Ent):Bool:=gN b==0&&b.all λx=>decide (0<=x.count)
def pu (n:Int):Bool:=decide (-840<=n)&&decide (n<=840)
def jL (l:List Shift)(i:Nat)(s:Shift):Int:=
 if s.at_<1\/575999999<s.at_\/pu s.offset=false then 1 else if 0<i/\s.at_<=((l[i-1]?).map Shift.at_).getD 0 then 14 else 0
def ik (l:List Shift):Nat->List Shift->Int
 | _,[]=>0
 |k,x::r=>if jL l k x≠0 then jL l k x else ik l (k+1) r
def gT (z:Zone):Int:=if 64<z.shifts.length then 2 else if pu z.offset=false then 1 else ik z.shifts 0 z.shifts
def Ag (l:List Zone):Int:=fQ (λ_ z=>gT z) 0 l
def mP (name:ByteArray):Nat->List Zone->Int
 | _,[]=> -1
 |k,z::l=>if z.name.toList==name.toList then k else mP name (k+1) l
def mH (zs:List Zone)(name:ByteArray):Int:=mP name 0 zs
def oI (zs:List Zone)(name:ByteArray):Zone:=if mH zs name<0 then default else zs.getD (mH zs name).toNat default
def tY (t o:Int):Int:=if t+o<0 then -1 else(t+o) / 1440
def uD (t:Int):List Shift->Int->Int->Int
 | [],best,o=>max best (tY t o)
 |s::l,best,o=>if t<s.at_ then max best (tY t o) else uD t l (max best (tY (s.at_-1) o)) s.offset
def Hg (z:Zone)(t:Int):Int:=uD t z.shifts 0 z.offset
def yR (z:Zone)(t:Int):Int:=if gT z≠0 then gT z else if t<0\/575999999<t then 1 else 0
def OI (z:Zone)(t:Int):Int×Int:=if yR z t≠0 then(0,yR z t) else(Hg z t,0)
def jM:List UInt8->Nat
 | []=>0
 |c::l=>if c=46 then 0 else jM l+1
def sZ (s:ByteArray):Nat:=jM s.toList
def kS (s:ByteArray):Bool:=
 if sZ s<s.size then iY (s.extract 0 (sZ s))&&iY (s.extract (sZ s+1) s.size) else iY s
def mG (l:List ByteArray)(s:ByteArray):Bool:=l.any λx=>x.toList==s.toList
def words:List ByteArray:=[⟨#[97,110,100]⟩,⟨#[111,114]⟩,⟨#[110,111,116]⟩,⟨#[110,117,108,108]⟩,⟨#[116,114,117,101]⟩,⟨#[102,97,108,115,101]⟩,⟨#[98,121]⟩,⟨#[115,101,108,102]⟩]
def tJ:List ByteArray:=[⟨#[105,102]⟩,⟨#[99,111,97,108,101,115,99,101]⟩,⟨#[105,115,110,117,108,108]⟩,⟨#[108,101,110,103,116,104]⟩,⟨#[100,97,121]⟩]
def qw (s:ByteArray):Bool:=mG words s
def qp (s:ByteArray):Bool:=mG tJ s
def arity (a b:Int):Int:=
 if a=0\/a=1 then 0 else if a=2\/a=3\/a=16\/a=19\/a=20 then 1 else if a=17 then 3 else if a=21 then b else if 4<=a/\a<=18 then 2 else -1
def ll (v:Val):Bool:=v.kind==0&&v.num==0&&jI v.str
def shaped (n:Node):Bool:=
 if n.op=0 then valid n.value&&jI n.name&&n.arity==0
 else ll n.value&&
  (if n.op=21 then kS n.name&&!qp n.name&&!qw n.name&&(decide (0<=n.arity)&&decide (n.arity<=8))
   else n.arity==0&&(if n.op=1 then iY n.name&&!qw n.name else if n.op=20 then kS n.name&&!qw n.name else jI n.name&&decide (0<=arity n.op n.arity)))
def raise (l:List Int):Int:=l.foldl (λh x=>max h (1+x)) 1
def oz (n:Node)(len:Nat):Nat:=len-(arity n.op n.arity).toNat
def gX:List Int->List Node->Int
 |st,[]=>if st.length≠1 then 8 else 0
 |st,n::l=>
  if shaped n=false\/(st.length:Int)<arity n.op n.arity then 8
  else if 64<raise (st.drop (oz n st.length)) then 2
  else gX (st.take (oz n st.length)++[raise (st.drop (oz n st.length))]) l
def iN (e:List Node):Int:=if 256<e.length then 2 else gX [] e
structure Kd where
 kind:Int
 null:Bool
instance:Inhabited Kd:=⟨⟨0,false⟩⟩
def fits (x:Kd)(k:Int):Bool:=x.kind==k || x.kind==0
def common (a b:Kd):Int×Bool:=if a.kind=0 then(b.kind,true) else(a.kind,fits b a.kind)
def sS (a:Int)(x:Kd):Kd×Bool:=
 if a=2 then(⟨1,x.null⟩,fits x 1) else if a=3 then(⟨2,x.null⟩,fits x 2) else if a=16 then(⟨1,false⟩,true) else if a=19 then(⟨2,x.null⟩,fits x 3) else(⟨2,x.null⟩,fits x 4)
def gM (a:Int)(x y:Kd):Kd×Bool:=
 if a=4 then(if x.kind=4 then(⟨4,true⟩,fits y 2) else(⟨2,true⟩,fits x 2&&fits y 2))
 else if a=5 then(if y.kind=4 then(⟨2,x.null || y.null⟩,fits x 4) else if x.kind=4 then(⟨4,true⟩,fits y 2) else(⟨2,true⟩,fits x 2&&fits y 2))
 else if a=6\/a=7\/a=8 then(⟨2,true⟩,fits x 2&&fits y 2)
 else if a=9 then(⟨3,true⟩,fits x 3&&fits y 3)
 else if a=14\/a=15 then(⟨1,x.null || y.null⟩,fits x 1&&fits y 1)
 else if a=18 then(⟨(common x y).1,x.null&&y.null⟩,(common x y).2)
 else(⟨1,x.null || y.null⟩,(common x y).2)
def jc (n:Node):List Kd->Kd×Bool
 | []=>(⟨n.value.kind,n.value.kind==0⟩,true)
 | [x]=>sS n.op x
 | [x,y]=>gM n.op x y
 |x::y::z::_=>(⟨(common y z).1,y.null || z.null⟩,(common y z).2&&fits x 1)
def iA (cols:List Col)(zs:List Zone)(n:Node)(xs:List Kd):Int×Kd:=
 if n.op=1 then(if index cols n.name<0 then(5,default) else(0,⟨(cols.getD (index cols n.name).toNat default).kind,(cols.getD (index cols n.name).toNat default).nullable⟩))
 else if n.op=21 then(5,default)
 else if n.op=20/\mH zs n.name<0 then(5,default)
 else if (jc n xs).2=false then(7,default) else(0,(jc n xs).1)
def gU (cols:List Col)(zs:List Zone):List Kd->List Node->Int×Kd
 |st,[]=>(0,st.headD default)
 |st,n::l=>
  if (iA cols zs n (st.drop (oz n st.length))).1≠0 then((iA cols zs n (st.drop (oz n st.length))).1,default)
  else gU cols zs (st.take (oz n st.length)++[(iA cols zs n (st.drop (oz n st.length))).2]) l
def iK (e:List Node)(cols:List Col)(zs:List Zone):Int:=
 if iN e≠0 then iN e else if gu cols≠0 then gu cols else Ag zs
def iX (e:List Node)(cols:List Col)(zs:List Zone):Int×Kd:=
 if iK e cols zs≠0 then(iK e cols zs,default) else gU cols zs [] e
def iG:Val:=⟨0,0,⟨#[]⟩⟩
def j5 (b:Bool):Val:=⟨1,if b then 1 else 0,⟨#[]⟩⟩
def ni (n:Int)(ok:Bool):Val:=if ok then⟨2,n,⟨#[]⟩⟩ else iG
def uV (n:Int):Val:=if n<0\/575999999<n then iG else⟨4,n,⟨#[]⟩⟩
def truth (v:Val):Int:=if v.kind=1/\valid v=true then v.num else -1
def De (a b:Val)(stop:Int):Val:=
 if truth a=stop\/truth b=stop then j5 (stop==1) else if truth a<0\/truth b<0 then iG else j5 (stop==0)
def iP (n:Int):Bool:=decide (-1073741824<=n)&&decide (n<=1073741824)
def wU (a b:Int):Int×Bool:=if iP a&&iP b&&iP (a+b) then(a+b,true) else(0,false)
def qg (a b:Int):Int×Bool:=if iP a&&iP b&&iP (a-b) then(a-b,true) else(0,false)
def xA (a b:Int):Int×Bool:=if iP a&&iP b&&iP (a*b) then(a*b,true) else(0,false)
def vC (a b:Int):Int×Bool:=if iP a&&iP b&&b != 0 then(a.fdiv b,true) else(0,false)
def vF (a b:Int):Int×Bool:=if iP a&&iP b&&b != 0 then(a.fmod b,true) else(0,false)
def mF (a:Int)(x y:Val):Val:=
 if a=4 then(if x.kind=4 then uV (x.num+y.num) else ni (wU x.num y.num).1 (wU x.num y.num).2)
 else if a=5 then(if x.kind=4/\y.kind=2 then uV (x.num-y.num) else ni (qg x.num y.num).1 (qg x.num y.num).2)
 else if a=6 then ni (xA x.num y.num).1 (xA x.num y.num).2
 else if a=7 then ni (vC x.num y.num).1 (vC x.num y.num).2
 else ni (vF x.num y.num).1 (vF x.num y.num).2
def jH (a:Int)(x y:Val):Val:=
 if a=9 then(if 64<(x.str++y.str).size then iG else⟨3,0,x.str++y.str⟩)
 else if a=10 then j5 (iq x y==0)
 else if a=11 then j5 (iq x y != 0)
 else if a=12 then j5 (decide (iq x y<0))
 else if a=13 then j5 (decide (iq x y<=0))
 else mF a x y
def JI (zs:List Zone)(a:Int)(name:ByteArray)(x:Val):Val:=
 if a=16 then j5 (x.kind==0) else if x.kind=0 then iG else if a=2 then j5 (x.num==0) else if a=3 then ni (qg 0 x.num).1 (qg 0 x.num).2
 else if a=19 then ni x.str.size true else ni (OI (oI zs name) x.num).1 true
def vG (zs:List Zone)(n:Node):List Val->Val
 | []=>n.value
 | [x]=>JI zs n.op n.name x
 | [x,y]=>if n.op=14 then De x y 0 else if n.op=15 then De x y 1 else if n.op=18 then(if x.kind=0 then y else x) else if x.kind=0\/y.kind=0 then iG else jH n.op x y
 |x::y::z::_=>if truth x=1 then y else z
def lT (cols:List Col)(row:List Val)(zs:List Zone)(n:Node)(xs:List Val):Val:=
 if n.op=1 then row.getD (index cols n.name).toNat iG else vG zs n xs
def lU (cols:List Col)(row:List Val)(zs:List Zone):List Val->List Node->Val
 |st,[]=>st.headD iG
 |st,n::l=>lU cols row zs (st.take (oz n st.length)++[lT cols row zs n (st.drop (oz n st.length))]) l
def kW (e:List Node)(cols:List Col)(row:List Val)(zs:List Zone):Int×Val:=
 if (iX e cols zs).1≠0 then((iX e cols zs).1,iG) else if gF cols row≠0 then(gF cols row,iG) else(0,lU cols row zs [] e)
def jq:Nat->List Ent->List Ent->List Ent
 | 0,_,_=>[]
 | _+1,[],[]=>[]
 |f+1,[],y::ys=>y::jq f [] ys
 |f+1,x::xs,[]=>x::jq f xs []
 |f+1,x::xs,y::ys=>
  if gq x.row y.row<0 then x::jq f xs (y::ys)
  else if 0<gq x.row y.row then y::jq f (x::xs) ys
  else⟨x.row,x.count+y.count⟩::jq f xs ys
def iZ (xs a:List Ent):List Ent:=jq (xs.length+a.length) xs a
def vN (C:Int)(l:List Ent):Prop:= ∀x∈l, -C<=x.count/\x.count<=C
theorem kD: ∀f xs a,xs.length+a.length<=f->jq f xs a=jq (xs.length+a.length) xs a
 | 0,xs,a,h=>by rw[show xs.length+a.length=0 from by omega]
 |f+1,[],[],_=>by simp[jq]
 |f+1,[],y::a,h=>by
  simp only[List.length_nil,List.length_cons,Nat.zero_add]at h⊢;rw[jq,jq,kD f [] a (by simp;omega)];simp
 |f+1,x::xs,[],h=>by
  simp only[List.length_nil,List.length_cons,Nat.add_zero]at h⊢;rw[jq,jq,kD f xs [] (by simp;omega)];simp
 |f+1,x::xs,y::a,h=>by
  simp only[List.length_cons]at h⊢;rw[show xs.length+1+(a.length+1)=(xs.length+(a.length+1))+1 from by omega,jq,jq];rw[kD f xs (y::a) (by simp;omega),kD f (x::xs) a (by simp;omega),kD f xs a (by omega)];rw[kD (xs.length+(a.length+1)) (x::xs) a (by simp;omega),kD (xs.length+(a.length+1)) xs a (by omega)];simp
theorem vE:iZ [] []=[]:=rfl
theorem pI (y:Ent)(a:List Ent):iZ [] (y::a)=y::iZ [] a:=by
 unfold iZ;simp only[List.length_nil,List.length_cons,Nat.zero_add];rw[jq]
theorem qB (x:Ent)(xs:List Ent):iZ (x::xs) []=x::iZ xs []:=by
 unfold iZ;simp only[List.length_nil,List.length_cons,Nat.add_zero];rw[jq]
theorem qA (x y:Ent)(xs a:List Ent):iZ (x::xs) (y::a)=
  if gq x.row y.row<0 then x::iZ xs (y::a) else if 0<gq x.row y.row then y::iZ (x::xs) a else⟨x.row,x.count+y.count⟩::iZ xs a:=by
 unfold iZ;simp only[List.length_cons];rw[show xs.length+1+(a.length+1)=(xs.length+(a.length+1))+1 from by omega,jq];rw[kD (xs.length+(a.length+1)) (x::xs) a (by simp;omega),kD (xs.length+(a.length+1)) xs a (by omega)];simp
theorem oh: ∀n xs a,xs.length+a.length<=n->(iZ xs a).length<=xs.length+a.length
 | 0,xs,a,h=>by
  rw[List.eq_nil_of_length_eq_zero (show xs.length=0 by omega),List.eq_nil_of_length_eq_zero (show a.length=0 by omega)];simp[vE]
 |n+1,[],[],_=>by simp[vE]
 |n+1,[],y::a,h=>by
  have:=oh n [] a (by simp at h⊢;omega);rw[pI];simp at*;omega
 |n+1,x::xs,[],h=>by
  have:=oh n xs [] (by simp at h⊢;omega);rw[qB];simp at*;omega
 |n+1,x::xs,y::a,h=>by
  have b:=oh n xs (y::a) (by simp at h⊢;omega);have c:=oh n (x::xs) a (by simp at h⊢;omega);have d:=oh n xs a (by simp at h⊢;omega);rw[qA]
  split
  ·simp at*;omega
  ·split
   ·simp at*;omega
   ·simp at*;omega
theorem og {C D:Int}(d:0<=C)(e:0<=D): ∀n xs c,xs.length+c.length<=n->vN C xs->vN D c->vN (C+D) (iZ xs c)
 | 0,xs,c,h,_,_=>by
  rw[List.eq_nil_of_length_eq_zero (show xs.length=0 by omega),List.eq_nil_of_length_eq_zero (show c.length=0 by omega)];intro x b;cases b
 |n+1,[],[],_,_,_=>by intro x b;cases b
 |n+1,[],y::c,h,b,hy=>by
  rw[pI];have f:=og d e n [] c (by simp at h⊢;omega) b (λz a=>hy z (List.mem_cons_of_mem _ a));intro z a;cases a with
  |head=>have:=hy y (List.mem_cons_self ..);omega
  |tail _ a=>exact f z a
 |n+1,x::xs,[],h,b,hy=>by
  rw[qB];have f:=og d e n xs [] (by simp at h⊢;omega) (λz a=>b z (List.mem_cons_of_mem _ a)) hy;intro z a;cases a with
  |head=>have:=b x (List.mem_cons_self ..);omega
  |tail _ a=>exact f z a
 |n+1,x::xs,y::c,h,b,hy=>by
  have k:=b x (List.mem_cons_self ..);have l:=hy y (List.mem_cons_self ..);have g:=og d e n xs (y::c) (by simp at h⊢;omega) (λz a=>b z (List.mem_cons_of_mem _ a)) hy;have i:=og d e n (x::xs) c (by simp at h⊢;omega) b (λz a=>hy z (List.mem_cons_of_mem _ a));have j:=og d e n xs c (by simp at h⊢;omega) (λz a=>b z (List.mem_cons_of_mem _ a)) (λz a=>hy z (List.mem_cons_of_mem _ a));rw[qA]
  split
  ·intro z a;cases a with
   |head=>omega
   |tail _ a=>exact g z a
  ·split
   ·intro z a;cases a with
    |head=>omega
    |tail _ a=>exact i z a
   ·intro z a;cases a with
    |head=>simp only;omega
    |tail _ a=>exact j z a
def lG:Nat->List Ent->List Ent
 | 0,l=>l
 |f+1,l=>if l.length<2 then l else iZ (lG f (l.take (l.length / 2))) (lG f (l.drop (l.length / 2)))
def jD (l:List Ent):List Ent:=lG l.length l
theorem vL (m:Nat)(l:List Ent)(h:¬l.length<2):lG (m+1) l=iZ (lG m (l.take (l.length / 2))) (lG m (l.drop (l.length / 2))):=by rw[lG,if_neg h]
theorem sP: ∀n (l:List Ent),l.length<=n-> ∀f,l.length<=f->lG f l=lG l.length l
 | 0,l,h,f,_=>by
  rw[List.eq_nil_of_length_eq_zero (show l.length=0 by omega)];cases f with
  |zero=>rfl
  |succ f=>rw[lG];rfl
 |n+1,l,h,f,hf=>by
  by_cases a:l.length<2
  ·match l,a,f,hf with
   | [],_,0,_=>rfl
   | [],_,f+1,_=>rw[lG];rfl
   | [x],_,f+1,_=>rw[lG];rfl
   |x::y::t,h,_,_=>simp at h;omega
  ·obtain⟨m,i⟩: ∃m,l.length=m+1:=⟨l.length-1,by omega⟩;obtain⟨k,rfl⟩: ∃k,f=k+1:=⟨f-1,by omega⟩;have d:(l.take (l.length / 2)).length<=m:=by rw[List.length_take];omega
   have g:(l.drop (l.length / 2)).length<=m:=by rw[List.length_drop];omega
   have e:lG l.length l=lG (m+1) l:=congrArg (λn=>lG n l) i;rw[e,vL k l a,vL m l a];have b:=sP n (l.take (l.length / 2)) (by omega);have c:=sP n (l.drop (l.length / 2)) (by omega);rw[b k (by omega),c k (by omega),b m d,c m g]
theorem qF {l:List Ent}(h:l.length<2):jD l=l:=by
 match l,h with
 | [],_=>rfl
 | [x],_=>rfl
 |x::y::t,h=>simp at h;omega
theorem sQ {l:List Ent}(h:¬l.length<2):jD l=iZ (jD (l.take (l.length / 2))) (jD (l.drop (l.length / 2))):=by
 obtain⟨m,c⟩: ∃m,l.length=m+1:=⟨l.length-1,by omega⟩;have a:(l.take (l.length / 2)).length<=m:=by rw[List.length_take];omega
 have b:(l.drop (l.length / 2)).length<=m:=by rw[List.length_drop];omega
 have e:lG l.length l=lG (m+1) l:=congrArg (λn=>lG n l) c;unfold jD;rw[e,vL m l h,sP m _ a m a,sP m _ b m b]
theorem rM: ∀n (l:List Ent),l.length<=n->(jD l).length<=l.length
 | 0,l,h=>by rw[List.eq_nil_of_length_eq_zero (show l.length=0 by omega)];simp[jD,lG]
 |n+1,l,h=>by
  by_cases a:l.length<2
  ·rw[qF a];omega
  ·rw[sQ a];have b:=rM n (l.take (l.length / 2)) (by rw[List.length_take];omega);have c:=rM n (l.drop (l.length / 2)) (by rw[List.length_drop];omega);have d:=oh _ (jD (l.take (l.length / 2))) (jD (l.drop (l.length / 2))) (Nat.le_refl _);rw[List.length_take]at b;rw[List.length_drop]at c;omega
theorem uN {C:Int}(b:0<=C): ∀n (l:List Ent),l.length<=n->vN C l->vN (C*(l.length:Int)) (jD l)
 | 0,l,h,_=>by
  rw[List.eq_nil_of_length_eq_zero (show l.length=0 by omega)];intro x a;cases a
 |n+1,l,h,hb=>by
  by_cases g:l.length<2
  ·rw[qF g];intro x a;have f:=hb x a;have c:l.length=1:=by have:=List.length_pos_of_mem a;omega
   simp[c];omega
  ·rw[sQ g];have f:(l.take (l.length / 2)).length=l.length / 2:=by rw[List.length_take];omega
   have c:(l.drop (l.length / 2)).length=l.length-l.length / 2:=by rw[List.length_drop]
   have d:=uN b n (l.take (l.length / 2)) (by omega) (λx a=>hb x (List.mem_of_mem_take a));have e:=uN b n (l.drop (l.length / 2)) (by omega) (λx a=>hb x (List.mem_of_mem_drop a));rw[f]at d;rw[c]at e;have:=og (Int.mul_nonneg b (by omega)) (Int.mul_nonneg b (by omega)) _ _ _ (Nat.le_refl _) d e;rw[<-Int.mul_add]at this;rw[show((l.length / 2:Nat):Int)+((l.length-l.length / 2:Nat):Int)=(l.length:Int) from by omega]at this;exact this
def jw (l:List Ent):List Ent:=l.filter λx=>!(x.count==0)
def jv:Nat->List Ent->Bool
 | _,[]=>false
 |m,x::l=>if x.count=0 then jv m l else(decide (x.count < -65536) || decide (65536<x.count) || decide (m=4096)) || jv (m+1) l
structure Total {α:Type} (c:α->α->Int):Prop where
 zero: ∀a b,c a b=0↔a=b
 anti: ∀a b,c a b<0↔0<c b a
 trans: ∀a b d,c a b<0->c b d<0->c a d<0
theorem Total.self {α:Type}{c:α->α->Int}(h:Total c)(a:α):c a a=0:=(h.zero a a).2 rfl
theorem Total.lt_of {α:Type}{c:α->α->Int}(h:Total c){a b:α}(d:¬c a b<0)(e:¬c a b=0):c b a<0:=(h.anti b a).2 (by omega)
theorem NY {a b:Int}:lZ a b<0↔a<b:=by rw[lZ];(repeat' split)<;>omega
theorem yw {a b:Int}:lZ a b=0↔a=b:=by rw[lZ];(repeat' split)<;>omega
theorem wW: ∀l:List UInt8,Op.bytesLess l l=false
 | []=>rfl
 |x::l=>by simp[Op.bytesLess,wW l]
theorem G8 {x y:UInt8}{l m:List UInt8}:Op.bytesLess (x::l) (y::m)=true↔x.toNat<y.toNat\/(x=y/\Op.bytesLess l m=true):=by
 simp only[Op.bytesLess,Bool.or_eq_true,Bool.and_eq_true,decide_eq_true_eq,beq_iff_eq];exact Iff.rfl
theorem yM: ∀l m n:List UInt8,Op.bytesLess l m=true->Op.bytesLess m n=true->Op.bytesLess l n=true
 | _,_,[],_,h=>by simp[Op.bytesLess]at h
 | [],_,_::_,_,_=>rfl
 | _::_,[],_::_,h,_=>by simp[Op.bytesLess]at h
 |x::l,y::m,z::n,h,a=>by
  rw[G8]at h a⊢;rcases h with h|⟨rfl,h⟩
  ·rcases a with a|⟨rfl,a⟩
   ·exact .inl (by omega)
   ·exact .inl h
  ·rcases a with a|⟨rfl,a⟩
   ·exact .inl a
   ·exact .inr ⟨rfl,yM l m n h a⟩
theorem Ka: ∀(l m:List UInt8),Op.bytesLess l m=false->Op.bytesLess m l=false->l=m
 | [],[]=>λ_ _=>rfl
 | [],_::_=>λh _=>by simp[Op.bytesLess]at h
 | _::_,[]=>λ_ h=>by simp[Op.bytesLess]at h
 |x::l,y::m=>λh c=>by
  have a:¬Op.bytesLess (x::l) (y::m)=true:=by rw[h];simp
  have b:¬Op.bytesLess (y::m) (x::l)=true:=by rw[c];simp
  rw[G8]at a b;have e:x=y:=UInt8.toNat_inj.1 (by omega);subst e;rw[Ka l m (by cases q:Op.bytesLess l m;rfl;exact absurd (.inr ⟨rfl,q⟩) a) (by cases q:Op.bytesLess m l;rfl;exact absurd (.inr ⟨rfl,q⟩) b)]
theorem ba_eq {a b:ByteArray}(h:a.toList=b.toList):a=b:=by
 rw[ByteArray.toList_eq,ByteArray.toList_eq]at h;obtain⟨⟨a⟩⟩:=a;obtain⟨⟨b⟩⟩:=b;simp at h;rw[h]
theorem yQ {a b:ByteArray}:lI a b<0↔Op.bytesLess a.toList b.toList=true:=by
 rw[lI]
 split
 ·simp_all
 ·split<;>simp_all
theorem uC {a b:ByteArray}:lI a b=0↔a=b:=by
 rw[lI]
 split
 ·rename_i h;constructor
  ·intro q;omega
  ·intro q;rw[q,wW]at h;cases h
 ·split
  ·rename_i h;exact⟨λ_=>ba_eq h,λ_=>rfl⟩
  ·rename_i h;exact⟨λq=>absurd q (by omega),λq=>absurd (by rw[q]) h⟩
theorem uO:Total lI:=by
 refine⟨λ_ _=>uC,λa b=>?_,λa b d h g=>?_⟩
 ·constructor
  ·intro h;have c:¬lI b a<0:=λq=>by
    have:=yM _ _ _ (yQ.1 h) (yQ.1 q);rw[wW]at this;cases this
   have f:¬lI b a=0:=λq=>by
    rw[uC]at q;subst q;rw[uC.2 rfl]at h;omega
   omega
  ·intro h;by_cases q:lI a b<0
   ·exact q
   ·have c:Op.bytesLess a.toList b.toList=false:=by cases e:Op.bytesLess a.toList b.toList;rfl;exact absurd (yQ.2 e) q
    have f:Op.bytesLess b.toList a.toList=false:=by cases e:Op.bytesLess b.toList a.toList;rfl;have:=yQ.2 e;omega
    have:=ba_eq (Ka _ _ c f);subst this;rw[uC.2 rfl]at h;omega
 ·exact yQ.2 (yM _ _ _ (yQ.1 h) (yQ.1 g))
theorem Hf {a b:Val}:iq a b<0↔a.kind<b.kind\/(a.kind=b.kind/\(a.num<b.num\/(a.num=b.num/\lI a.str b.str<0))):=by
 rw[iq];have c:=@yw a.kind b.kind;have d:=@yw a.num b.num;have e:=@NY a.kind b.kind;have f:=@NY a.num b.num
 split
 ·rename_i h;constructor<;>intro q<;>omega
 ·split
  ·constructor<;>intro q<;>omega
  ·constructor
   ·intro q;exact .inr ⟨by omega,.inr ⟨by omega,q⟩⟩
   ·intro q;omega
theorem si {a b:Val}:iq a b=0↔a=b:=by
 obtain⟨k,n,s⟩:=a;obtain⟨f,n',i⟩:=b;rw[iq];have c:=@yw k f;have d:=@yw n n';have e:=@uC s i;simp only
 split
 ·rename_i h;exact⟨λq=>absurd q h,λq=>by injection q with q;exact absurd (c.2 q) h⟩
 ·split
  ·rename_i h;exact⟨λq=>absurd q h,λq=>by injection q with q q1;exact absurd (d.2 q1) h⟩
  ·rename_i g h;constructor
   ·intro q;rw[c.1 (by omega),d.1 (by omega),e.1 q]
   ·intro q;injection q with _ _ q;exact e.2 q
theorem pR:Total iq:=by
 refine⟨λ_ _=>si,λa b=>?_,λa b d h j=>?_⟩
 ·have g: ∀a b:Val,iq a b<0->0<iq b a:=λa b h=>by
   rw[Hf]at h;have m:¬iq b a<0:=by
    rw[Hf];intro q;have:lI a.str b.str<0->lI b.str a.str<0->False:=λp r=>by have:=(uO.anti _ _).1 p;omega
    rcases h with h|⟨h,h|⟨f,h⟩⟩<;>rcases q with q|⟨q,q|⟨l,q⟩⟩<;>first|omega|exact this h q
   have f:¬iq b a=0:=by
    rw[si];rintro rfl;have:=(uO.zero b.str b.str).2 rfl;rcases h with h|⟨_,h|⟨_,h⟩⟩<;>omega
   omega
  constructor
  ·exact g a b
  ·intro h;by_cases q:iq a b<0
   ·exact q
   ·have f:¬iq a b=0:=by
     rw[si];rintro rfl;rw[si.2 rfl]at h;omega
    exfalso;have i:¬iq b a<0:=by omega
    rw[Hf]at q i;rcases Int.lt_trichotomy a.kind b.kind with e|e|e
    ·exact q (.inl e)
    ·rcases Int.lt_trichotomy a.num b.num with c|c|c
     ·exact q (.inr ⟨e,.inl c⟩)
     ·by_cases c1:lI a.str b.str<0
      ·exact q (.inr ⟨e,.inr ⟨c,c1⟩⟩)
      ·by_cases c2:lI a.str b.str=0
       ·apply f;rw[si];obtain⟨k,n,s⟩:=a;obtain⟨o,n',t⟩:=b;rw[uC]at c2;simp only at e c c2;rw[e,c,c2]
       ·exact i (.inr ⟨e.symm,.inr ⟨c.symm,uO.lt_of c1 c2⟩⟩)
     ·exact i (.inr ⟨e.symm,.inl c⟩)
    ·exact i (.inl e)
 ·rw[Hf]at h j⊢;have:=uO.trans a.str b.str d.str;rcases h with h|⟨h,h|⟨f,h⟩⟩<;>rcases j with q|⟨q,q|⟨l,q⟩⟩
  all_goals first|exact .inl (by omega)|exact .inr ⟨by omega,.inl (by omega)⟩|exact .inr ⟨by omega,.inr ⟨by omega,this h q⟩⟩
theorem jd: ∀{a b:List Val},gq a b=0↔a=b
 | [],[]=>by simp[gq]
 | [],_::_=>by simp[gq]
 | _::_,[]=>by simp[gq]
 |x::l,y::m=>by
  have c:=@jd l m;have h:=@si x y;rw[gq]
  split
  ·rename_i g;exact⟨λq=>absurd q g,λq=>by injection q with q;exact absurd (h.2 q) g⟩
  ·rename_i g;rw[c,h.1 (by omega)];simp
theorem ML {x y:Val}{l m:List Val}:gq (x::l) (y::m)<0↔iq x y<0\/(x=y/\gq l m<0):=by
 have h:=@si x y;rw[gq]
 split
 ·rename_i g;exact⟨λq=>.inl q,λq=>by rcases q with q|⟨q,_⟩;exact q;exact absurd (h.2 q) g⟩
 ·rename_i g;exact⟨λq=>.inr ⟨h.1 (by omega),q⟩,λq=>by rcases q with q|⟨_,q⟩;omega;exact q⟩
theorem Cx: ∀{a b:List Val},gq a b<0↔0<gq b a
 | [],[]=>by simp[gq]
 | [],_::_=>by simp[gq]
 | _::_,[]=>by simp[gq]
 |x::l,y::m=>by
  have f:=@Cx l m;have h:=pR.anti x y;have c:=pR.zero x y;have d:=pR.zero y x;rw[gq,gq];by_cases e:x=y
  ·subst e;rw[if_neg (by rw[pR.self];simp),if_neg (by rw[pR.self];simp)];exact f
  ·rw[if_pos (λq=>e (c.1 q)),if_pos (λq=>e (d.1 q).symm)];exact h
theorem pW: ∀{a b d:List Val},gq a b<0->gq b d<0->gq a d<0
 | _,[],[],_,h=>by simp[gq]at h
 | _,_::_,[],_,h=>by simp[gq]at h
 | [],_,_::_,_,_=>by simp[gq]
 | _::_,[],_::_,h,_=>by simp[gq]at h
 |x::l,y::m,z::n,h,c=>by
  rw[ML]at h c⊢;rcases h with h|⟨rfl,h⟩
  ·rcases c with c|⟨rfl,c⟩
   ·exact .inl (pR.trans _ _ _ h c)
   ·exact .inl h
  ·rcases c with c|⟨rfl,c⟩
   ·exact .inl c
   ·exact .inr ⟨rfl,pW h c⟩
theorem GJ:Total gq:=⟨λ_ _=>jd,λ_ _=>Cx,λ_ _ _=>pW⟩
def cnt:List Ent->List Val->Int
 | [],_=>0
 |x::l,r=>(if gq x.row r=0 then x.count else 0)+cnt l r
def mI (l:List Ent):Prop:=l.Pairwise λx y=>gq x.row y.row<0
def Pe (l:List Ent):Prop:= ∀x∈l,x.count≠0
theorem vX (l m:List Ent)(r:List Val):cnt (l++m) r=cnt l r+cnt m r:=by
 induction l with
 |nil=>simp[cnt]
 |cons x l a=>rw[List.cons_append,cnt,cnt,a];omega
theorem lu {l:List Ent}{r:List Val}(h: ∀x∈l,gq x.row r≠0):cnt l r=0:=by
 induction l with
 |nil=>rfl
 |cons x l b=>rw[cnt,if_neg (h x (by simp)),b λy a=>h y (by simp[a])];rfl
theorem mI.tail {x:Ent}{l:List Ent}(h:mI (x::l)):mI l:=(List.pairwise_cons.1 h).2
theorem mI.head {x:Ent}{l:List Ent}(h:mI (x::l)): ∀y∈l,gq x.row y.row<0:=(List.pairwise_cons.1 h).1
theorem mI.filter {l:List Ent}(h:mI l)(p:Ent->Bool):mI (l.filter p):=List.Pairwise.filter p h
theorem mI.head_zero {x:Ent}{l:List Ent}(h:mI (x::l)):cnt l x.row=0:=
 lu λy c q=>by
  have a:=h.head y c;have b:=jd.1 q;rw[b,jd.2 rfl]at a;omega
theorem mI.mem {l:List Ent}(h:mI l){x:Ent}(a:x∈l):cnt l x.row=x.count:=by
 induction l with
 |nil=>cases a
 |cons y l b=>
  rw[cnt];rcases List.mem_cons.1 a with rfl|a
  ·rw[if_pos (jd.2 rfl),h.head_zero];omega
  ·have c:=h.head x a;rw[if_neg (by omega),b h.tail a];omega
theorem GZ: ∀{l m:List Ent},mI l->mI m->Pe l->Pe m->(∀r,cnt l r=cnt m r)->l=m
 | [],[],_,_,_,_,_=>rfl
 | [],y::m,_,hm,_,hz,h=>by
  have:=h y.row;rw[hm.mem (by simp),cnt]at this;exact absurd this.symm (hz y (by simp))
 |x::l,[],hl,_,hz,_,h=>by
  have:=h x.row;rw[hl.mem (by simp),cnt]at this;exact absurd this (hz x (by simp))
 |x::l,y::m,hl,hm,hz,hz',h=>by
  have i:=hl.mem (x:=x) (by simp);have j:=hm.mem (x:=y) (by simp);have n:¬gq x.row y.row<0:=λq=>by
   have:cnt (y::m) x.row=0:=lu λz f e=>by
    have e:=jd.1 e;rcases List.mem_cons.1 f with rfl|f
    ·rw[e,jd.2 rfl]at q;omega
    ·have:=pW q (hm.head z f);rw[e,jd.2 rfl]at this;omega
   rw[<-h,i]at this;exact hz x (by simp) this
  have n2:¬gq y.row x.row<0:=λq=>by
   have:cnt (x::l) y.row=0:=lu λz f e=>by
    have e:=jd.1 e;rcases List.mem_cons.1 f with rfl|f
    ·rw[e,jd.2 rfl]at q;omega
    ·have:=pW q (hl.head z f);rw[e,jd.2 rfl]at this;omega
   rw[h,j]at this;exact hz' y (by simp) this
  have e:x.row=y.row:=by
   by_cases q:gq x.row y.row=0
   ·exact jd.1 q
   ·exact absurd (GJ.lt_of n q) n2
  have g:x.count=y.count:=by rw[<-i,<-j,h,e]
  have k:x=y:=by
   obtain⟨a,b⟩:=x;obtain⟨c,d⟩:=y;simp only at e g;rw[e,g]
  subst k;rw[GZ hl.tail hm.tail (λz q=>hz z (by simp[q])) (λz q=>hz' z (by simp[q])) λr=>by
   have:=h r;rw[cnt,cnt]at this;omega]
theorem jP {P:List Val->Prop}: ∀f xs d,(∀x∈xs,P x.row)->(∀x∈d,P x.row)-> ∀x∈jq f xs d,P x.row
 | 0,_,_=>λ_ _ x a=>by simp[jq]at a
 |f+1,[],[]=>λ_ _ x a=>by simp[jq]at a
 |f+1,[],y::d=>λh c x a=>by
  rw[jq]at a;rcases List.mem_cons.1 a with rfl|a
  ·exact c _ (by simp)
  ·exact jP f [] d h (λz b=>c z (by simp[b])) x a
 |f+1,x::xs,[]=>λh c z a=>by
  rw[jq]at a;rcases List.mem_cons.1 a with rfl|a
  ·exact h _ (by simp)
  ·exact jP f xs [] (λz b=>h z (by simp[b])) c z a
 |f+1,x::xs,y::d=>λh c z a=>by
  rw[jq]at a
  split at a
  ·rcases List.mem_cons.1 a with rfl|a
   ·exact h _ (by simp)
   ·exact jP f xs (y::d) (λz b=>h z (by simp[b])) c z a
  ·split at a
   ·rcases List.mem_cons.1 a with rfl|a
    ·exact c _ (by simp)
    ·exact jP f (x::xs) d h (λz b=>c z (by simp[b])) z a
   ·rcases List.mem_cons.1 a with rfl|a
    ·exact h x (by simp)
    ·exact jP f xs d (λz b=>h z (by simp[b])) (λz b=>c z (by simp[b])) z a
theorem nZ: ∀f xs a,xs.length+a.length<=f-> ∀r,cnt (jq f xs a) r=cnt xs r+cnt a r
 | 0,xs,a=>λh r=>by
  have b:xs=[]:=List.length_eq_zero_iff.1 (by omega);have c:a=[]:=List.length_eq_zero_iff.1 (by omega);subst b c;rfl
 |f+1,[],[]=>λh r=>rfl
 |f+1,[],y::a=>λh r=>by
  simp only[jq,cnt,nZ f [] a (by simp at h⊢;omega) r];omega
 |f+1,x::xs,[]=>λh r=>by
  simp only[jq,cnt,nZ f xs [] (by simp at h⊢;omega) r];omega
 |f+1,x::xs,y::a=>λh r=>by
  simp only[List.length_cons]at h;rw[jq]
  split
  ·rw[cnt,nZ f xs (y::a) (by simp;omega),cnt,cnt];omega
  ·split
   ·rw[cnt,nZ f (x::xs) a (by simp;omega),cnt,cnt];omega
   ·have e:x.row=y.row:=jd.1 (by omega);rw[cnt,nZ f xs a (by omega),cnt,cnt,e];simp only
    split<;>omega
theorem nY: ∀f xs b,mI xs->mI b->mI (jq f xs b)
 | 0,_,_=>λ_ _=>List.Pairwise.nil
 |f+1,[],[]=>λ_ _=>List.Pairwise.nil
 |f+1,[],y::b=>λh c=>by
  rw[jq];exact List.pairwise_cons.2 ⟨jP (P:=λr=>gq y.row r<0) f [] b (λz a=>by cases a) c.head,nY f [] b h c.tail⟩
 |f+1,x::xs,[]=>λh c=>by
  rw[jq];exact List.pairwise_cons.2 ⟨jP (P:=λr=>gq x.row r<0) f xs [] h.head (λz a=>by cases a),nY f xs [] h.tail c⟩
 |f+1,x::xs,y::b=>λh c=>by
  rw[jq]
  split
  ·rename_i q;exact List.pairwise_cons.2 ⟨jP (P:=λr=>gq x.row r<0) f xs (y::b) h.head (λz a=>by
    rcases List.mem_cons.1 a with rfl|a
    ·exact q
    ·exact pW q (c.head z a)),nY f xs (y::b) h.tail c⟩
  ·split
   ·rename_i _ q;have q:=Cx.2 q;exact List.pairwise_cons.2 ⟨jP (P:=λr=>gq y.row r<0) f (x::xs) b (λz a=>by
     rcases List.mem_cons.1 a with rfl|a
     ·exact q
     ·exact pW q (h.head z a)) c.head,nY f (x::xs) b h c.tail⟩
   ·have e:x.row=y.row:=jd.1 (by omega);exact List.pairwise_cons.2 ⟨jP (P:=λr=>gq x.row r<0) f xs b h.head (λz a=>by rw[e];exact c.head z a),nY f xs b h.tail c.tail⟩
theorem Gd (xs a:List Ent)(r:List Val):cnt (iZ xs a) r=cnt xs r+cnt a r:=nZ _ _ _ (Nat.le_refl _) r
theorem Gc {xs a:List Ent}(h:mI xs)(b:mI a):mI (iZ xs a):=nY _ _ _ h b
theorem xE: ∀f (l:List Ent) (r:List Val),cnt (lG f l) r=cnt l r
 | 0,l,r=>rfl
 |f+1,l,r=>by
  rw[lG]
  split
  ·rfl
  ·rw[Gd,xE f,xE f,<-vX,List.take_append_drop]
theorem xD: ∀f (l:List Ent),l.length<=f->mI (lG f l)
 | 0,l,h=>by
  have a:l=[]:=List.length_eq_zero_iff.1 (by omega);subst a;exact List.Pairwise.nil
 |f+1,l,h=>by
  rw[lG]
  split
  ·rename_i q
   match l,q with
   | [],_=>exact List.Pairwise.nil
   | [x],_=>exact List.pairwise_singleton _ _
   | _::_::_,q=>exact absurd q (by simp)
  ·exact Gc (xD f _ (by rw[List.length_take];omega)) (xD f _ (by rw[List.length_drop];omega))
theorem rJ (l:List Ent)(r:List Val):cnt (jD l) r=cnt l r:=xE _ _ _
theorem uM (l:List Ent):mI (jD l):=xD _ _ (Nat.le_refl _)
theorem rC (l:List Ent)(r:List Val):cnt (jw l) r=cnt l r:=by
 induction l with
 |nil=>rfl
 |cons x l a=>
  rw[jw]at a⊢;by_cases q:x.count=0
  ·rw[List.filter_cons_of_neg (by simp[q]),a,cnt,q];simp
  ·rw[List.filter_cons_of_pos (by simp[q]),cnt,a,cnt]
theorem uH {l:List Ent}(h:mI l):mI (jw l):=h.filter _
theorem pO (l:List Ent):Pe (jw l):=λx a=>by
 have:=(List.mem_filter.1 a).2;simpa using this
theorem Jb {l:List Ent}: ∀x∈jw l,x∈l:=λx a=>(List.mem_filter.1 a).1
theorem um: ∀(l:List Ent) (m:Nat),jv m (jw l)=jv m l
 | [],m=>rfl
 |x::l,m=>by
  have a:=um l;by_cases q:x.count=0
  ·rw[show jw (x::l)=jw l from List.filter_cons_of_neg (by simp[q]),a,jv,if_pos q]
  ·rw[show jw (x::l)=x::jw l from List.filter_cons_of_pos (by simp[q]),jv,jv,if_neg q,if_neg q,a]
def rU (xs:List Ent):Int×List Ent:=if jv 0 (jD xs)=true then(2,[]) else(0,jw (jD xs))
theorem vJ: ∀(l:List Ent) (m:Nat),Pe l->m<=4096->(jv m l=false↔(∀x∈l, -65536<=x.count/\x.count<=65536)/\m+l.length<=4096)
 | [],m,_,hm=>by simp[jv];omega
 |x::l,m,h,hm=>by
  have e:x.count≠0:=h x (by simp);rw[jv,if_neg e];by_cases q:m=4096
  ·subst q;simp
  ·have g:=vJ l (m+1) (λy f=>h y (by simp[f])) (by omega);simp only[Bool.or_eq_false_iff,decide_eq_false_iff_not,g,List.mem_cons,List.length_cons,forall_eq_or_imp];constructor
   ·rintro⟨⟨⟨a,b⟩,_⟩,c,d⟩;exact⟨⟨⟨by omega,by omega⟩,c⟩,by omega⟩
   ·rintro⟨⟨⟨a,b⟩,c⟩,d⟩;exact⟨⟨⟨by omega,by omega⟩,q⟩,c,by omega⟩
theorem ww {α:Type}{f:Nat->α->Int}: ∀{l:List α} {k:Nat},fQ f k l=0↔ ∀j x,l[j]?=some x->f (k+j) x=0
 | [],k=>by simp[fQ]
 |y::l,k=>by
  have c:=@ww α f l (k+1);rw[fQ];by_cases b:f k y=0
  ·rw[if_neg (by simpa using b),c];constructor
   ·intro h j x a;cases j with
    |zero=>simp at a;subst a;exact b
    |succ j=>have:=h j x (by simpa using a);rw[show k+(j+1)=k+1+j by omega];exact this
   ·intro h j x a;have:=h (j+1) x (by simpa using a);rw[show k+(j+1)=k+1+j by omega]at this;exact this
  ·rw[if_pos b];constructor
   ·intro h;exact absurd h b
   ·intro h;exact absurd (h 0 y (by simp)) b
theorem rT {b:List Ent}{i:Nat}{x:Ent}:jr b i x=0↔ib x=0/\x.count≠0/\(0<i->gq (b.getD (i-1) default).row x.row<0):=by
 rw[jr];by_cases a:ib x=0
 ·rw[if_neg (by simpa using a)];by_cases d:x.count=0
  ·simp[a,d]
  ·rw[if_neg d];by_cases c:0<i/\0<=gq (b.getD (i-1) default).row x.row
   ·rw[if_pos c];constructor
    ·intro q;omega
    ·rintro⟨_,_,q⟩;have:=q c.1;omega
   ·rw[if_neg c];simp only[true_iff];exact⟨a,d,λq=>by
     by_cases g:gq (b.getD (i-1) default).row x.row<0
     ·exact g
     ·exact absurd ⟨q,by omega⟩ c⟩
 ·rw[if_pos a];simp[a]
theorem vQ: ∀{l:List Ent},(∀j x y,l[j]?=some x->l[j+1]?=some y->gq x.row y.row<0)->mI l
 | [],_=>List.Pairwise.nil
 | [x],_=>List.pairwise_singleton _ _
 |x::y::l,h=>by
  have d:=h 0 x y rfl rfl;have e:mI (y::l):=vQ λj a b f hb=>h (j+1) a b (by simpa using f) (by simpa using hb);refine List.pairwise_cons.2 ⟨λz c=>?_,e⟩;rcases List.mem_cons.1 c with rfl|c
  ·exact d
  ·exact pW d (e.head z c)
theorem lX {b:List Ent}:gN b=0↔b.length<=4096/\(∀x∈b,ib x=0/\x.count≠0)/\mI b:=by
 rw[gN];by_cases e:4096<b.length
 ·rw[if_pos e];constructor
  ·intro q;omega
  ·rintro⟨q,_⟩;omega
 ·rw[if_neg e,ww];have k:b.length<=4096:=by omega
  constructor
  ·intro h;refine⟨k,λx a=>?_,vQ λj x y a m=>?_⟩
   ·obtain⟨j,d⟩:=List.mem_iff_getElem?.1 a;have:=rT.1 (h j x d);exact⟨this.1,this.2.1⟩
   ·have:=(rT.1 (h (j+1) y m)).2.2 (by omega);rw[show(0+(j+1)-1)=j by omega,List.getD_eq_getElem?_getD,a]at this;exact this
  ·rintro⟨_,c,g⟩ j x a;have f:=List.mem_iff_getElem?.2 ⟨j,a⟩;refine rT.2 ⟨(c x f).1,(c x f).2,λd=>?_⟩;obtain⟨l,i⟩:=List.getElem?_eq_some_iff.1 a;have:=List.pairwise_iff_getElem.1 g (0+j-1) j (by omega) l (by omega);rw[i]at this;rw[List.getD_eq_getElem?_getD,List.getElem?_eq_getElem (by omega)];exact this
theorem MW {x:Ent}(h:ib x=0): -65536<=x.count/\x.count<=65536/\x.row.length<=12:=by
 rw[ib]at h
 split at h
 ·omega
 ·omega
theorem ut {P:List Val->Prop}: ∀f (l:List Ent),(∀x∈l,P x.row)-> ∀x∈lG f l,P x.row
 | 0,l,h=>h
 |f+1,l,h=>by
  rw[lG]
  split
  ·exact h
  ·exact jP _ _ _ (ut f _ λx a=>h x (List.mem_of_mem_take a)) (ut f _ λx a=>h x (List.mem_of_mem_drop a))
theorem wV {P:List Val->Prop}{xs:List Ent}(h: ∀x∈xs,P x.row): ∀x∈(rU xs).2,P x.row:=by
 rw[rU]
 split
 ·intro x a;cases a
 ·intro x a;exact ut _ xs h x (Jb x a)
theorem DF (xs:List Ent):(rU xs).1=0\/((rU xs).1=2/\(rU xs).2=[]):=by
 rw[rU];split<;>simp
theorem DD {xs:List Ent}(h:(rU xs).1=0)(r:List Val):cnt (rU xs).2 r=cnt xs r:=by
 rw[rU]at h⊢
 split
 ·rename_i q;rw[if_pos q]at h;cases h
 ·rw[rC,rJ]
theorem sj {x:Ent}:ib x=0↔(-65536<=x.count/\x.count<=65536)/\x.row.length<=12/\ ∀v∈x.row,valid v=true:=by
 rw[ib]
 split
 ·rename_i h;constructor
  ·intro q;omega
  ·rintro⟨q,c,_⟩;omega
 ·rename_i h;rw[ww];constructor
  ·intro q;refine⟨by omega,by omega,λv b=>?_⟩;obtain⟨j,a⟩:=List.mem_iff_getElem?.1 b;have:=q j v a
   split at this
   ·assumption
   ·omega
  ·rintro⟨_,_,q⟩ j v a;rw[if_pos (q v (List.mem_iff_getElem?.2 ⟨j,a⟩))]
theorem Cr {xs:List Ent}(h: ∀x∈xs,ib x=0):gN (rU xs).2=0:=by
 have b:=wV (P:=λr=>r.length<=12/\ ∀v∈r,valid v=true) (xs:=xs) λx a=>(sj.1 (h x a)).2;rw[rU]at b⊢
 split
 ·rfl
 ·rename_i q;rw[if_neg q]at b;have q:jv 0 (jw (jD xs))=false:=by rw[um];simpa using q
  obtain⟨c,d⟩:=(vJ _ 0 (pO _) (by omega)).1 q;exact lX.2 ⟨by simpa using d,λx a=>⟨sj.2 ⟨c x a,b x a⟩,pO _ x a⟩,uH (uM _)⟩
def cntF:List Ent->List Val->Int
 | [],_=>0
 |x::l,r=>if gq x.row r=0 then x.count else cntF l r
theorem mI.cntF {l:List Ent}(h:mI l)(r:List Val):Proofs.YtopjjlmfilgngaaGreatDoor.cntF l r=cnt l r:=by
 induction l with
 |nil=>rfl
 |cons x l a=>
  rw[Proofs.YtopjjlmfilgngaaGreatDoor.cntF,cnt];by_cases q:gq x.row r=0
  ·rw[if_pos q,if_pos q];have:=h.head_zero;rw[jd.1 q]at this;omega
  ·rw[if_neg q,if_neg q,a h.tail];omega
end Go.Proofs.YtopjjlmfilgngaaGreatDoor
