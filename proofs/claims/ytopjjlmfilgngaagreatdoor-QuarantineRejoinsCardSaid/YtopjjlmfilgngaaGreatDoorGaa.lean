/-
  How data lies in memory: a class 'Rep' (what cells of a world a datum reads as), with its instances for ints, bools, strings, slices and the structs of package api; its frame; and the road from the claim's own reading ('DataW.trod') to it. No program is in sight. Plain functions, no program in sight: the values, columns, rows, bags and relations of chapters 1, 5, 6 and 19, as both texts compute them. Plain functions, no program in sight: expressions (chapter 8), their types and values (chapter 9), zones and days (chapter 4), checked arithmetic (chapter 2), as both texts compute them. Plain functions, no program in sight: merging, sorting and normalizing lists of entries (chapter 6), as the reference does it. Plain law: the orders of strings, values and rows are total orders. No program is in sight. Plain law of bags: a bag is told by its counts; merging and sorting add counts; Normalize's answer depends on the counts alone. No program is in sight.
-/
import Derived.WalkKit
import Derived.Deep.Slices
import Derived.ChangeSame
namespace Go.Proofs.YtopjjlmfilgngaaGreatDoor
set_option linter.unusedVariables false
set_option linter.unusedSimpArgs false
open Go.RowKit Go.ChangeShapes Go.WideShapes
def Same (S:Nat->Prop)(w w':World):Prop:= ∀k,S k->w'.heap[k]?=w.heap[k]?
theorem Same.refl (S:Nat->Prop)(w:World):Same S w w:=λ_ _=>rfl
theorem Same.trans {S:Nat->Prop}{a b c:World}(h:Same S a b)(h':Same S b c):Same S a c:=λk hk=>(h' k hk).trans (h k hk)
theorem Same.sub {S T:Nat->Prop}{a b:World}(h:Same T a b)(hs: ∀k,S k->T k):Same S a b:=λk hk=>h k (hs k hk)
theorem Same.below {B:Nat}{w w':World}(h:Below B w w'):Same (· < B) w w':=λk hk=>h.block k hk
theorem Same.cell {S:Nat->Prop}{w w':World}(h:Same S w w'){a:Addr}(ha:S a.block):w'.cell? a=w.cell? a:=World.cell?_of_block (w:=w) (h _ ha)
class Rep (α:Type) where
 size:Nat
 rd:World->(Nat->Prop)->List Value->α->Prop
 len: ∀{w:World} {S:Nat->Prop} {cs:List Value} {a:α},rd w S cs a->cs.length=size
 keep: ∀{w w':World} {S:Nat->Prop} {cs:List Value} {a:α},Same S w w'->rd w S cs a->rd w' S cs a
 mono: ∀{w:World} {S T:Nat->Prop} {cs:List Value} {a:α},(∀k,S k->T k)->rd w S cs a->rd w T cs a
def dH (n:Int):Prop:= -9223372036854775808<=n/\n<=9223372036854775807
instance:Rep Int where
 size:=1
 rd _ _ cs n:=cs=[.int .i64 n]/\dH n
 len h:=by rw[h.1];rfl
 keep _ h:=h
 mono _ h:=h
instance:Rep Bool where
 size:=1
 rd _ _ cs b:=cs=[.bool b]
 len h:=by rw[h];rfl
 keep _ h:=h
 mono _ h:=h
instance:Rep ByteArray where
 size:=1
 rd _ _ cs s:=cs=[.string s]/\s.size<=9223372036854775807
 len h:=by rw[h.1];rfl
 keep _ h:=h
 mono _ h:=h
def At {α:Type}[Rep α](w:World)(S:Nat->Prop)(b off:Nat)(a:α):Prop:=
 ∃cs:List Value,Rep.rd w S cs a/\ ∀j,(hj:j<cs.length)->w.cell? ⟨b,off+j,none⟩=some cs[j]
theorem At.keep {α:Type}[Rep α]{w w':World}{S:Nat->Prop}{b off:Nat}{a:α}(hb:S b)(hs:Same S w w')(h:At w S b off a):At w' S b off a:=by
 obtain ⟨cs,h1,h2⟩:=h;exact ⟨cs,Rep.keep hs h1,λj hj=>(hs.cell (a:=⟨b,off+j,none⟩) hb).trans (h2 j hj)⟩
theorem At.mono {α:Type}[Rep α]{w:World}{S T:Nat->Prop}{b off:Nat}{a:α}(hs: ∀k,S k->T k)(h:At w S b off a):At w T b off a:=by
 obtain ⟨cs,h1,h2⟩:=h;exact ⟨cs,Rep.mono hs h1,h2⟩
def Sl {α:Type}[Rep α](w:World)(S:Nat->Prop)(A:Option Addr)(n c:Nat)(xs:List α):Prop:=
 xs.length=n/\n<=c/\c<=9223372036854775807/\(A=none->c=0)/\
  (0<n-> ∃b off,A=some ⟨b,off,none⟩/\S b/\ ∀i,(hi:i<xs.length)->At w S b (off+i*Rep.size α) xs[i])
section
variable {α:Type}[Rep α]{w w':World}{S T:Nat->Prop}{A:Option Addr}{n c:Nat}{xs:List α}
theorem Sl.keep (hs:Same S w w')(h:Sl w S A n c xs):Sl w' S A n c xs:=by
 refine ⟨h.1,h.2.1,h.2.2.1,h.2.2.2.1,λhn=>?_⟩;obtain ⟨b,off,e,hb,hi⟩:=h.2.2.2.2 hn;exact ⟨b,off,e,hb,λi h'=>(hi i h').keep hb hs⟩
theorem Sl.mono (hs: ∀k,S k->T k)(h:Sl w S A n c xs):Sl w T A n c xs:=by
 refine ⟨h.1,h.2.1,h.2.2.1,h.2.2.2.1,λhn=>?_⟩;obtain ⟨b,off,e,hb,hi⟩:=h.2.2.2.2 hn;exact ⟨b,off,e,hs _ hb,λi h'=>(hi i h').mono hs⟩
theorem Sl.len (h:Sl w S A n c xs):xs.length=n:=h.1
theorem Sl.nil_:Sl (α:=α) w S none 0 0 []:=⟨rfl,Nat.le_refl _,by omega,λ_=>rfl,λh=>absurd h (by omega)⟩
theorem Sl.empty (h:c<=9223372036854775807)(hA:A=none->c=0):Sl (α:=α) w S A 0 c []:=⟨rfl,by omega,h,hA,λh=>absurd h (by omega)⟩
end
instance {α:Type} [Rep α]:Rep (List α) where
 size:=1
 rd w S cs xs:= ∃A n c,cs=[.slice A n c]/\Sl w S A n c xs
 len h:=by obtain ⟨A,n,c,rfl,_⟩:=h;rfl
 keep hs h:=by obtain ⟨A,n,c,rfl,h⟩:=h;exact ⟨A,n,c,rfl,h.keep hs⟩
 mono hs h:=by obtain ⟨A,n,c,rfl,h⟩:=h;exact ⟨A,n,c,rfl,h.mono hs⟩
def x9 (P:Program)(t:TypeId)(α:Type)[Rep α]:Prop:=
 ∀(H:Type) (enc:TypeId×Value->H) (w:World) (spare:Nat->Bool) (held:Bool) (fuel:Nat) (cs:List Value) (y:DataW H×List MemPlace),
  DataW.trod enc P w 0 spare held fuel t cs=some y-> ∃a:α,Rep.rd w (· < w.heap.size) cs a
section
variable {P:Program}{t e:TypeId}
theorem wf_i64 {n:Int}(h:(Lit.int .i64 n).wf=true):dH n:=by
 simp[Lit.wf,IntKind.min,IntKind.max,IntKind.signed,IntKind.bits]at h;unfold dH;omega
theorem DC (h:P.underlying t=some (.int .i64)):x9 P t Int:=λ_ _ _ _ _ _ _ _ hy=>by
 obtain ⟨n,hc,_,hw⟩:=DataW.trod_int h hy;exact ⟨n,hc,wf_i64 hw⟩
theorem opens_string (h:P.underlying t=some .string):x9 P t ByteArray:=λ_ _ _ _ _ _ _ _ hy=>by
 obtain ⟨s,hc,_,hw⟩:=DataW.trod_string h hy;exact ⟨s,hc,by unfold maxLen at hw;omega⟩
theorem lt_of_cell {w:World}{a:Addr}{v:Value}(h:w.cell? a=some v):a.block<w.heap.size:=block_lt_of_cell h
theorem zA {α:Type}[Rep α][Inhabited α](h:P.underlying t=some (.slice e))(hsz:P.cellsOf e=Rep.size α)(hpos:0<Rep.size α)(he:x9 P e α):x9 P t (List α):=λH enc w spare held fuel cs y hy=>by
 rcases Go.Deep.open_slice h hy with ⟨hc,_⟩|⟨a,len,cap,m,n,D,Pl,hcs,hb,hl,hm,hmm,hx,hi⟩
 ·exact ⟨[],none,0,0,hc,Sl.nil_⟩
 ·have hmax:cap<=9223372036854775807:=by unfold maxLen at hm;omega
  have hm':len<=m:=by rw[hmm];split <;> omega
  have H1: ∀i,i<len-> ∃x:α,∃cs',w.cells? 0 (a.add (i*P.cellsOf e)) (P.cellsOf e)=some cs'/\Rep.rd w (· < w.heap.size) cs' x:=λi hil=>by
   obtain ⟨cs',hc',ht⟩:=hi i (by omega);obtain ⟨x,hx⟩:=he H enc w spare held n cs' _ ht;exact ⟨x,cs',hc',hx⟩
  obtain ⟨f,hf⟩:=Go.Deep.choose_lt H1;refine ⟨(List.range len).map f,some a,len,cap,hcs,by simp,hl,hmax,(λh=>by cases h),λhn=>?_⟩;have hspot:a.spot=none:=by
   obtain ⟨cs',hc',hr⟩:=hf 0 hn;obtain ⟨_,hlen,hcell⟩:=World.cells?_some hc';have h0:=hcell 0 (by omega);rw[List.getElem?_eq_getElem (by omega)]at h0;have:=World.cell?_spot h0;simpa[Addr.add] using this
  obtain ⟨b,off,spot⟩:=a;obtain rfl:spot=none:=hspot;have hblk:b<w.heap.size:=by
   obtain ⟨cs',hc',hr⟩:=hf 0 hn;obtain ⟨_,hlen,hcell⟩:=World.cells?_some hc';have h0:=hcell 0 (by omega);rw[List.getElem?_eq_getElem (by omega)]at h0;have:=lt_of_cell h0;simpa[Addr.add] using this
  refine ⟨b,off,rfl,hblk,λi hi'=>?_⟩;have hil:i<len:=by simpa using hi'
  obtain ⟨cs',hc',hr⟩:=hf i hil;obtain ⟨_,hlen,hcell⟩:=World.cells?_some hc';refine ⟨cs',by simpa using hr,λj hj=>?_⟩;have:=hcell j (by omega);rw[List.getElem?_eq_getElem hj]at this;rw[<-this]
  congr 1
  unfold Addr.add;by_cases h1:i*P.cellsOf e=0 <;> by_cases h2:j=0 <;> simp_all[Nat.add_assoc]
end
structure Val where
 kind:Int
 num:Int
 str:ByteArray
structure Col where
 name:ByteArray
 kind:Int
 nullable:Bool
structure Ent where
 row:List Val
 count:Int
structure Rel where
 name:ByteArray
 columns:List Col
 keys:List (List ByteArray)
 rows:List Ent
structure Shift where
 at_:Int
 offset:Int
structure Zone where
 name:ByteArray
 offset:Int
 shifts:List Shift
structure Node where
 op:Int
 value:Val
 name:ByteArray
 arity:Int
instance:Inhabited Val:=⟨⟨0,0,ByteArray.empty⟩⟩
instance:Inhabited Col:=⟨⟨ByteArray.empty,0,false⟩⟩
instance:Inhabited Ent:=⟨⟨[],0⟩⟩
instance:Inhabited Shift:=⟨⟨0,0⟩⟩
instance:Inhabited Zone:=⟨⟨ByteArray.empty,0,[]⟩⟩
instance:Inhabited Node:=⟨⟨0,default,ByteArray.empty,0⟩⟩
def Str (s:ByteArray):Prop:=s.size<=9223372036854775807
def Val.ok (v:Val):Prop:=dH v.kind/\dH v.num/\Str v.str
def Col.ok (c:Col):Prop:=Str c.name/\dH c.kind
def Im (op:Int):Prop:=op=1\/op=12\/op=13
def Node.ok (n:Node):Prop:=dH n.op/\n.value.ok/\Str n.name/\dH n.arity/\Im n.op
def Val.cells (v:Val):List Value:=[.int .i64 v.kind,.int .i64 v.num,.string v.str]
def Col.cells (c:Col):List Value:=[.string c.name,.int .i64 c.kind,.bool c.nullable]
def Shift.cells (s:Shift):List Value:=[.int .i64 s.at_,.int .i64 s.offset]
def Node.cells (n:Node):List Value:=[.int .i64 n.op,.int .i64 n.value.kind,.int .i64 n.value.num,.string n.value.str,.string n.name,.int .i64 n.arity]
instance:Rep Val where
 size:=3
 rd _ _ cs v:=cs=v.cells/\v.ok
 len h:=by rw[h.1];rfl
 keep _ h:=h
 mono _ h:=h
instance:Rep Col where
 size:=3
 rd _ _ cs v:=cs=v.cells/\v.ok
 len h:=by rw[h.1];rfl
 keep _ h:=h
 mono _ h:=h
instance:Rep Shift where
 size:=2
 rd _ _ cs v:=cs=v.cells/\dH v.at_/\dH v.offset
 len h:=by rw[h.1];rfl
 keep _ h:=h
 mono _ h:=h
instance:Rep Node where
 size:=6
 rd _ _ cs v:=cs=v.cells/\v.ok
 len h:=by rw[h.1];rfl
 keep _ h:=h
 mono _ h:=h
instance:Rep Ent where
 size:=2
 rd w S cs x:= ∃A n c,cs=[.slice A n c,.int .i64 x.count]/\Sl w S A n c x.row/\dH x.count
 len h:=by obtain ⟨A,n,c,rfl,_⟩:=h;rfl
 keep hs h:=by obtain ⟨A,n,c,rfl,h,hc⟩:=h;exact ⟨A,n,c,rfl,h.keep hs,hc⟩
 mono hs h:=by obtain ⟨A,n,c,rfl,h,hc⟩:=h;exact ⟨A,n,c,rfl,h.mono hs,hc⟩
instance:Rep Zone where
 size:=3
 rd w S cs x:= ∃A n c,cs=[.string x.name,.int .i64 x.offset,.slice A n c]/\Sl w S A n c x.shifts/\Str x.name/\dH x.offset
 len h:=by obtain ⟨A,n,c,rfl,_⟩:=h;rfl
 keep hs h:=by obtain ⟨A,n,c,rfl,h,hc⟩:=h;exact ⟨A,n,c,rfl,h.keep hs,hc⟩
 mono hs h:=by obtain ⟨A,n,c,rfl,h,hc⟩:=h;exact ⟨A,n,c,rfl,h.mono hs,hc⟩
instance:Rep Rel where
 size:=4
 rd w S cs x:= ∃A n c A' n' c' bX n'' c'',cs=[.string x.name,.slice A n c,.slice A' n' c',.slice bX n'' c'']/\Sl w S A n c x.columns/\Sl w S A' n' c' x.keys/\Sl w S bX n'' c'' x.rows/\Str x.name
 len h:=by obtain ⟨_,_,_,_,_,_,_,_,_,rfl,_⟩:=h;rfl
 keep hs h:=by obtain ⟨A,n,c,A',n',c',bX,n'',c'',rfl,h1,h2,h3,h4⟩:=h;exact ⟨A,n,c,A',n',c',bX,n'',c'',rfl,h1.keep hs,h2.keep hs,h3.keep hs,h4⟩
 mono hs h:=by obtain ⟨A,n,c,A',n',c',bX,n'',c'',rfl,h1,h2,h3,h4⟩:=h;exact ⟨A,n,c,A',n',c',bX,n'',c'',rfl,h1.mono hs,h2.mono hs,h3.mono hs,h4⟩
section
variable {P:Program}{t:TypeId}
def FieldAt (P:Program)(f:Field)(o:Nat)(β:Type)[Rep β]:Prop:=f.offset=o/\P.cellsOf f.type=Rep.size β/\x9 P f.type β
theorem opens_two {α β γ:Type}[Rep α][Rep β][Rep γ]{f0 f1:Field}(h:P.underlying t=some (.struct #[f0,f1]))(hc:P.cellsOf t=Rep.size α+Rep.size β)(h0:FieldAt P f0 0 α)(h1:FieldAt P f1 (Rep.size α) β)(mk: ∀w S ca cb (a:α) (b:β),Rep.rd w S ca a->Rep.rd w S cb b-> ∃g:γ,Rep.rd w S (ca++cb) g):x9 P t γ:=λH enc w spare held fuel cs y hy=>by
 obtain ⟨xs,n,_,_,hl,hlen,hf⟩:=DataW.trod_struct h hy
 match xs,hlen with
 | [y0,y1],_=>
  have e0:=hf 0 f0 rfl;have e1:=hf 1 f1 rfl;rw[h0.1,h0.2.1]at e0;rw[h1.1,h1.2.1]at e1;obtain ⟨a,ra⟩:=h0.2.2 H enc w spare held n _ y0 (by simpa using e0);obtain ⟨b,rb⟩:=h1.2.2 H enc w spare held n _ y1 (by simpa using e1);obtain ⟨g,rg⟩:=mk _ _ _ _ a b ra rb;refine ⟨g,?_⟩;have:cs=(cs.drop 0).take (Rep.size α)++(cs.drop (Rep.size α)).take (Rep.size β):=by
   rw[List.drop_zero,List.take_of_length_le (l:=cs.drop (Rep.size α)) (by rw[List.length_drop];omega),List.take_append_drop]
  rw[this];exact rg
theorem opens_three {α β δ γ:Type}[Rep α][Rep β][Rep δ][Rep γ]{f0 f1 f2:Field}(h:P.underlying t=some (.struct #[f0,f1,f2]))(hc:P.cellsOf t=Rep.size α+Rep.size β+Rep.size δ)(h0:FieldAt P f0 0 α)(h1:FieldAt P f1 (Rep.size α) β)(h2:FieldAt P f2 (Rep.size α+Rep.size β) δ)(mk: ∀w S ca cb cd (a:α) (b:β) (d:δ),Rep.rd w S ca a->Rep.rd w S cb b->Rep.rd w S cd d-> ∃g:γ,Rep.rd w S (ca++cb++cd) g):x9 P t γ:=λH enc w spare held fuel cs y hy=>by
 obtain ⟨xs,n,_,_,hl,hlen,hf⟩:=DataW.trod_struct h hy
 match xs,hlen with
 | [y0,y1,y2],_=>
  have e0:=hf 0 f0 rfl;have e1:=hf 1 f1 rfl;have e2:=hf 2 f2 rfl;rw[h0.1,h0.2.1]at e0;rw[h1.1,h1.2.1]at e1;rw[h2.1,h2.2.1]at e2;obtain ⟨a,ra⟩:=h0.2.2 H enc w spare held n _ y0 (by simpa using e0);obtain ⟨b,rb⟩:=h1.2.2 H enc w spare held n _ y1 (by simpa using e1);obtain ⟨d,rd⟩:=h2.2.2 H enc w spare held n _ y2 (by simpa using e2);obtain ⟨g,rg⟩:=mk _ _ _ _ _ a b d ra rb rd;refine ⟨g,?_⟩;have:cs=(cs.drop 0).take (Rep.size α)++(cs.drop (Rep.size α)).take (Rep.size β)++(cs.drop (Rep.size α+Rep.size β)).take (Rep.size δ):=by
   rw[List.drop_zero,<-List.take_add,List.take_of_length_le (l:=cs.drop (Rep.size α+Rep.size β)) (by rw[List.length_drop];omega),List.take_append_drop]
  rw[this];exact rg
theorem opens_four {α β δ ε γ:Type}[Rep α][Rep β][Rep δ][Rep ε][Rep γ]{f0 f1 f2 f3:Field}(h:P.underlying t=some (.struct #[f0,f1,f2,f3]))(hc:P.cellsOf t=Rep.size α+Rep.size β+Rep.size δ+Rep.size ε)(h0:FieldAt P f0 0 α)(h1:FieldAt P f1 (Rep.size α) β)(h2:FieldAt P f2 (Rep.size α+Rep.size β) δ)(h3:FieldAt P f3 (Rep.size α+Rep.size β+Rep.size δ) ε)(mk: ∀w S ca cb cd ce (a:α) (b:β) (d:δ) (x:ε),Rep.rd w S ca a->Rep.rd w S cb b->Rep.rd w S cd d->Rep.rd w S ce x-> ∃g:γ,Rep.rd w S (ca++cb++cd++ce) g):x9 P t γ:=λH enc w spare held fuel cs y hy=>by
 obtain ⟨xs,n,_,_,hl,hlen,hf⟩:=DataW.trod_struct h hy
 match xs,hlen with
 | [y0,y1,y2,y3],_=>
  have e0:=hf 0 f0 rfl;have e1:=hf 1 f1 rfl;have e2:=hf 2 f2 rfl;have e3:=hf 3 f3 rfl;rw[h0.1,h0.2.1]at e0;rw[h1.1,h1.2.1]at e1;rw[h2.1,h2.2.1]at e2;rw[h3.1,h3.2.1]at e3;obtain ⟨a,ra⟩:=h0.2.2 H enc w spare held n _ y0 (by simpa using e0);obtain ⟨b,rb⟩:=h1.2.2 H enc w spare held n _ y1 (by simpa using e1);obtain ⟨d,rd⟩:=h2.2.2 H enc w spare held n _ y2 (by simpa using e2);obtain ⟨x,rx⟩:=h3.2.2 H enc w spare held n _ y3 (by simpa using e3);obtain ⟨g,rg⟩:=mk _ _ _ _ _ _ a b d x ra rb rd rx;refine ⟨g,?_⟩;have:cs=(cs.drop 0).take (Rep.size α)++(cs.drop (Rep.size α)).take (Rep.size β)++(cs.drop (Rep.size α+Rep.size β)).take (Rep.size δ)++(cs.drop (Rep.size α+Rep.size β+Rep.size δ)).take (Rep.size ε):=by
   rw[List.drop_zero,<-List.take_add,<-List.take_add,List.take_of_length_le (l:=cs.drop (Rep.size α+Rep.size β+Rep.size δ)) (by rw[List.length_drop];omega),List.take_append_drop]
  rw[this];exact rg
variable {f0 f1 f2 f3:Field}
theorem opens_val (h:P.underlying t=some (.struct #[f0,f1,f2]))(hc:P.cellsOf t=3)(h0:FieldAt P f0 0 Int)(h1:FieldAt P f1 1 Int)(h2:FieldAt P f2 2 ByteArray):x9 P t Val:=
 opens_three h hc h0 h1 h2 λ_ _ _ _ _ a b d ra rb rd=>⟨⟨a,b,d⟩,by rw[ra.1,rb.1,rd.1];rfl,ra.2,rb.2,rd.2⟩
theorem opens_ent (h:P.underlying t=some (.struct #[f0,f1]))(hc:P.cellsOf t=2)(h0:FieldAt P f0 0 (List Val))(h1:FieldAt P f1 1 Int):x9 P t Ent:=
 opens_two h hc h0 h1 λ_ _ _ _ a b ⟨A,n,c,hcs,ha⟩ rb=>⟨⟨a,b⟩,A,n,c,by rw[hcs,rb.1];rfl,ha,rb.2⟩
end
def eD (a b:Int):Int:=if a<b then -1 else if b<a then 1 else 0
def dY (a b:ByteArray):Int:=if Op.bytesLess a.toList b.toList=true then -1 else if a.toList=b.toList then 0 else 1
def bD (a b:Val):Int:=if eD a.kind b.kind≠0 then eD a.kind b.kind else if eD a.num b.num≠0 then eD a.num b.num else dY a.str b.str
def ah:List Val->List Val->Int
 | [],[]=>0
 | [],_ :: _=> -1
 | _ :: _,[]=>1
 |a :: l,b :: m=>if bD a b≠0 then bD a b else ah l m
def dx (s:ByteArray):Bool:=s.toList.isEmpty
def valid (v:Val):Bool:=
 if v.kind=0 then (v.num==0)&&dx v.str
 else if v.kind=1 then dx v.str&&(v.num==0 || v.num==1)
 else if v.kind=2 then dx v.str&&(decide (-1073741824<=v.num)&&decide (v.num<=1073741824))
 else if v.kind=3 then (v.num==0)&&decide (v.str.size<=64)
 else if v.kind=4 then dx v.str&&(decide (0<=v.num)&&decide (v.num<=575999999))
 else false
def gK (s:ByteArray)(i:Nat):Nat:=(s.data.toList.getD i 0).toNat
def gM (c:Nat)(i:Nat):Bool:=(decide (97<=c)&&decide (c<=122)) || (decide (0<i)&&(decide (c=95) || (decide (48<=c)&&decide (c<=57))))
def eG (s:ByteArray):Nat->Nat->Bool
 | 0,_=>true
 |b+1,i=>gM (gK s i) i&&eG s b (i+1)
def cu (s:ByteArray):Bool:=decide (s.size<=24)&&(eG s s.size 0&&decide (0<s.size))
def aI (name:ByteArray):Nat->List Col->Int
 | _,[]=> -1
 |k,c :: l=>if c.name.toList==name.toList then k else aI name (k+1) l
def index (cols:List Col)(name:ByteArray):Int:=aI name 0 cols
def ja (cols:List Col)(i:Nat)(c:Col):Int:=
 if cu c.name=false then 4 else if c.kind<1\/4<c.kind then 7 else if index cols c.name<i then 6 else 0
def ag {α:Type}(f:Nat->α->Int):Nat->List α->Int
 | _,[]=>0
 |k,x :: l=>if f k x≠0 then f k x else ag f (k+1) l
def aC (cols:List Col):Int:=if cols.length<1\/12<cols.length then 2 else ag (ja cols) 0 cols
def bT (c:Col)(v:Val):Int:=
 if valid v=false then 8 else if (v.kind=0/\c.nullable=false)\/(v.kind≠0/\v.kind≠c.kind) then 7 else 0
def aB (cols:List Col)(row:List Val):Int:=
 if row.length≠cols.length then 8 else ag (λi v=>bT (cols.getD i default) v) 0 row
def aA (x:Ent):Int:=
 if 12<x.row.length\/x.count < -65536\/65536<x.count then 2 else ag (λ_ v=>if valid v then 0 else 8) 0 x.row
def bI (b:List Ent)(i:Nat)(x:Ent):Int:=
 if aA x≠0 then aA x else if x.count=0 then 8 else if 0<i/\0<=ah (b.getD (i-1) default).row x.row then 14 else 0
def au (b:List Ent):Int:=if 4096<b.length then 2 else ag (bI b) 0 b
def cO (b:List Ent):Bool:=au b==0&&b.all λx=>decide (0<=x.count)
def lD (n:Int):Bool:=decide (-840<=n)&&decide (n<=840)
def dR (l:List Shift)(i:Nat)(s:Shift):Int:=
 if s.at_<1\/575999999<s.at_\/lD s.offset=false then 1 else if 0<i/\s.at_<=((l[i-1]?).map Shift.at_).getD 0 then 14 else 0
def aU (l:List Shift):Nat->List Shift->Int
 | _,[]=>0
 |k,x :: r=>if dR l k x≠0 then dR l k x else aU l (k+1) r
def bg (z:Zone):Int:=if 64<z.shifts.length then 2 else if lD z.offset=false then 1 else aU z.shifts 0 z.shifts
def uL (l:List Zone):Int:=ag (λ_ z=>bg z) 0 l
def fH (name:ByteArray):Nat->List Zone->Int
 | _,[]=> -1
 |k,z :: l=>if z.name.toList==name.toList then k else fH name (k+1) l
def fw (zs:List Zone)(name:ByteArray):Int:=fH name 0 zs
def iC (zs:List Zone)(name:ByteArray):Zone:=if fw zs name<0 then default else zs.getD (fw zs name).toNat default
def mg (t o:Int):Int:=if t+o<0 then -1 else (t+o) / 1440
def mK (t:Int):List Shift->Int->Int->Int
 | [],best,o=>max best (mg t o)
 |s :: l,best,o=>if t<s.at_ then max best (mg t o) else mK t l (max best (mg (s.at_-1) o)) s.offset
def Cg (z:Zone)(t:Int):Int:=mK t z.shifts 0 z.offset
def sK (z:Zone)(t:Int):Int:=if bg z≠0 then bg z else if t<0\/575999999<t then 1 else 0
def Le (z:Zone)(t:Int):Int×Int:=if sK z t≠0 then (0,sK z t) else (Cg z t,0)
def jA:List UInt8->Nat
 | []=>0
 |c :: l=>if c=46 then 0 else jA l+1
def lW (s:ByteArray):Nat:=jA s.toList
def jk (s:ByteArray):Bool:=
 if lW s<s.size then cu (s.extract 0 (lW s))&&cu (s.extract (lW s+1) s.size) else cu s
def iJ (l:List ByteArray)(s:ByteArray):Bool:=l.any λx=>x.toList==s.toList
def words:List ByteArray:=[⟨#[97,110,100]⟩,⟨#[111,114]⟩,⟨#[110,111,116]⟩,⟨#[110,117,108,108]⟩,⟨#[116,114,117,101]⟩,⟨#[102,97,108,115,101]⟩,⟨#[98,121]⟩,⟨#[115,101,108,102]⟩]
def EM:List ByteArray:=[⟨#[105,102]⟩,⟨#[99,111,97,108,101,115,99,101]⟩,⟨#[105,115,110,117,108,108]⟩,⟨#[108,101,110,103,116,104]⟩,⟨#[100,97,121]⟩]
def tK (s:ByteArray):Bool:=iJ words s
def pK (s:ByteArray):Bool:=iJ EM s
def arity (op ar:Int):Int:=
 if op=0\/op=1 then 0 else if op=2\/op=3\/op=16\/op=19\/op=20 then 1 else if op=17 then 3 else if op=21 then ar else if 4<=op/\op<=18 then 2 else -1
def iW (v:Val):Bool:=v.kind==0&&v.num==0&&dx v.str
def shaped (n:Node):Bool:=
 if n.op=0 then valid n.value&&dx n.name&&n.arity==0
 else iW n.value&&
  (if n.op=21 then jk n.name&&!pK n.name&&!tK n.name&&(decide (0<=n.arity)&&decide (n.arity<=8))
   else n.arity==0&&(if n.op=1 then cu n.name&&!tK n.name else if n.op=20 then jk n.name&&!tK n.name else dx n.name&&decide (0<=arity n.op n.arity)))
def raise (l:List Int):Int:=l.foldl (λh x=>max h (1+x)) 1
def iq (n:Node)(len:Nat):Nat:=len-(arity n.op n.arity).toNat
def aM:List Int->List Node->Int
 |st,[]=>if st.length≠1 then 8 else 0
 |st,n :: l=>
  if shaped n=false\/(st.length:Int)<arity n.op n.arity then 8
  else if 64<raise (st.drop (iq n st.length)) then 2
  else aM (st.take (iq n st.length)++[raise (st.drop (iq n st.length))]) l
def bW (e:List Node):Int:=if 256<e.length then 2 else aM [] e
structure Kd where
 kind:Int
 null:Bool
instance:Inhabited Kd:=⟨⟨0,false⟩⟩
def fits (x:Kd)(k:Int):Bool:=x.kind==k || x.kind==0
def common (a b:Kd):Int×Bool:=if a.kind=0 then (b.kind,true) else (a.kind,fits b a.kind)
def ll (op:Int)(x:Kd):Kd×Bool:=
 if op=2 then (⟨1,x.null⟩,fits x 1) else if op=3 then (⟨2,x.null⟩,fits x 2) else if op=16 then (⟨1,false⟩,true) else if op=19 then (⟨2,x.null⟩,fits x 3) else (⟨2,x.null⟩,fits x 4)
def dQ (op:Int)(x y:Kd):Kd×Bool:=
 if op=4 then (if x.kind=4 then (⟨4,true⟩,fits y 2) else (⟨2,true⟩,fits x 2&&fits y 2))
 else if op=5 then (if y.kind=4 then (⟨2,x.null || y.null⟩,fits x 4) else if x.kind=4 then (⟨4,true⟩,fits y 2) else (⟨2,true⟩,fits x 2&&fits y 2))
 else if op=6\/op=7\/op=8 then (⟨2,true⟩,fits x 2&&fits y 2)
 else if op=9 then (⟨3,true⟩,fits x 3&&fits y 3)
 else if op=14\/op=15 then (⟨1,x.null || y.null⟩,fits x 1&&fits y 1)
 else if op=18 then (⟨(common x y).1,x.null&&y.null⟩,(common x y).2)
 else (⟨1,x.null || y.null⟩,(common x y).2)
def aX (n:Node):List Kd->Kd×Bool
 | []=>(⟨n.value.kind,n.value.kind==0⟩,true)
 | [x]=>ll n.op x
 | [x,y]=>dQ n.op x y
 |x :: y :: z :: _=>(⟨(common y z).1,y.null || z.null⟩,(common y z).2&&fits x 1)
def bG (cols:List Col)(zs:List Zone)(n:Node)(xs:List Kd):Int×Kd:=
 if n.op=1 then (if index cols n.name<0 then (5,default) else (0,⟨(cols.getD (index cols n.name).toNat default).kind,(cols.getD (index cols n.name).toNat default).nullable⟩))
 else if n.op=21 then (5,default)
 else if n.op=20/\fw zs n.name<0 then (5,default)
 else if (aX n xs).2=false then (7,default) else (0,(aX n xs).1)
def aN (cols:List Col)(zs:List Zone):List Kd->List Node->Int×Kd
 |st,[]=>(0,st.headD default)
 |st,n :: l=>
  if (bG cols zs n (st.drop (iq n st.length))).1≠0 then ((bG cols zs n (st.drop (iq n st.length))).1,default)
  else aN cols zs (st.take (iq n st.length)++[(bG cols zs n (st.drop (iq n st.length))).2]) l
def bA (e:List Node)(cols:List Col)(zs:List Zone):Int:=
 if bW e≠0 then bW e else if aC cols≠0 then aC cols else uL zs
def bR (e:List Node)(cols:List Col)(zs:List Zone):Int×Kd:=
 if bA e cols zs≠0 then (bA e cols zs,default) else aN cols zs [] e
def bH:Val:=⟨0,0,⟨#[]⟩⟩
def gI (b:Bool):Val:=⟨1,if b then 1 else 0,⟨#[]⟩⟩
def pO (n:Int)(ok:Bool):Val:=if ok then ⟨2,n,⟨#[]⟩⟩ else bH
def Bn (n:Int):Val:=if n<0\/575999999<n then bH else ⟨4,n,⟨#[]⟩⟩
def truth (v:Val):Int:=if v.kind=1/\valid v=true then v.num else -1
def xx (a b:Val)(stop:Int):Val:=
 if truth a=stop\/truth b=stop then gI (stop==1) else if truth a<0\/truth b<0 then bH else gI (stop==0)
def aV (n:Int):Bool:=decide (-1073741824<=n)&&decide (n<=1073741824)
def EH (a b:Int):Int×Bool:=if aV a&&aV b&&aV (a+b) then (a+b,true) else (0,false)
def uC (a b:Int):Int×Bool:=if aV a&&aV b&&aV (a-b) then (a-b,true) else (0,false)
def F6 (a b:Int):Int×Bool:=if aV a&&aV b&&aV (a*b) then (a*b,true) else (0,false)
def EW (a b:Int):Int×Bool:=if aV a&&aV b&&b != 0 then (a.fdiv b,true) else (0,false)
def F5 (a b:Int):Int×Bool:=if aV a&&aV b&&b != 0 then (a.fmod b,true) else (0,false)
def lS (op:Int)(x y:Val):Val:=
 if op=4 then (if x.kind=4 then Bn (x.num+y.num) else pO (EH x.num y.num).1 (EH x.num y.num).2)
 else if op=5 then (if x.kind=4/\y.kind=2 then Bn (x.num-y.num) else pO (uC x.num y.num).1 (uC x.num y.num).2)
 else if op=6 then pO (F6 x.num y.num).1 (F6 x.num y.num).2
 else if op=7 then pO (EW x.num y.num).1 (EW x.num y.num).2
 else pO (F5 x.num y.num).1 (F5 x.num y.num).2
def qj (op:Int)(x y:Val):Val:=
 if op=9 then (if 64<(x.str++y.str).size then bH else ⟨3,0,x.str++y.str⟩)
 else if op=10 then gI (bD x y==0)
 else if op=11 then gI (bD x y != 0)
 else if op=12 then gI (decide (bD x y<0))
 else if op=13 then gI (decide (bD x y<=0))
 else lS op x y
def DY (zs:List Zone)(op:Int)(name:ByteArray)(x:Val):Val:=
 if op=16 then gI (x.kind==0) else if x.kind=0 then bH else if op=2 then gI (x.num==0) else if op=3 then pO (uC 0 x.num).1 (uC 0 x.num).2
 else if op=19 then pO x.str.size true else pO (Le (iC zs name) x.num).1 true
def rZ (zs:List Zone)(n:Node):List Val->Val
 | []=>n.value
 | [x]=>DY zs n.op n.name x
 | [x,y]=>if n.op=14 then xx x y 0 else if n.op=15 then xx x y 1 else if n.op=18 then (if x.kind=0 then y else x) else if x.kind=0\/y.kind=0 then bH else qj n.op x y
 |x :: y :: z :: _=>if truth x=1 then y else z
def fE (cols:List Col)(row:List Val)(zs:List Zone)(n:Node)(xs:List Val):Val:=
 if n.op=1 then row.getD (index cols n.name).toNat bH else rZ zs n xs
def gT (cols:List Col)(row:List Val)(zs:List Zone):List Val->List Node->Val
 |st,[]=>st.headD bH
 |st,n :: l=>gT cols row zs (st.take (iq n st.length)++[fE cols row zs n (st.drop (iq n st.length))]) l
def jd (e:List Node)(cols:List Col)(row:List Val)(zs:List Zone):Int×Val:=
 if (bR e cols zs).1≠0 then ((bR e cols zs).1,bH) else if aB cols row≠0 then (aB cols row,bH) else (0,gT cols row zs [] e)
def bB:Nat->List Ent->List Ent->List Ent
 | 0,_,_=>[]
 | _+1,[],[]=>[]
 |f+1,[],y :: ys=>y :: bB f [] ys
 |f+1,x :: xs,[]=>x :: bB f xs []
 |f+1,x :: xs,y :: ys=>
  if ah x.row y.row<0 then x :: bB f xs (y :: ys)
  else if 0<ah x.row y.row then y :: bB f (x :: xs) ys
  else ⟨x.row,x.count+y.count⟩ :: bB f xs ys
def aL (xs ys:List Ent):List Ent:=bB (xs.length+ys.length) xs ys
def oK (C:Int)(l:List Ent):Prop:= ∀x∈l, -C<=x.count/\x.count<=C
theorem dw: ∀f xs ys,xs.length+ys.length<=f->bB f xs ys=bB (xs.length+ys.length) xs ys
 | 0,xs,ys,h=>by rw[show xs.length+ys.length=0 from by omega]
 |f+1,[],[],_=>by simp[bB]
 |f+1,[],y :: ys,h=>by
  simp only[List.length_nil,List.length_cons,Nat.zero_add]at h⊢;rw[bB,bB,dw f [] ys (by simp;omega)];simp
 |f+1,x :: xs,[],h=>by
  simp only[List.length_nil,List.length_cons,Nat.add_zero]at h⊢;rw[bB,bB,dw f xs [] (by simp;omega)];simp
 |f+1,x :: xs,y :: ys,h=>by
  simp only[List.length_cons]at h⊢;rw[show xs.length+1+(ys.length+1)=(xs.length+(ys.length+1))+1 from by omega,bB,bB];rw[dw f xs (y :: ys) (by simp;omega),dw f (x :: xs) ys (by simp;omega),dw f xs ys (by omega)];rw[dw (xs.length+(ys.length+1)) (x :: xs) ys (by simp;omega),dw (xs.length+(ys.length+1)) xs ys (by omega)];simp
theorem oD:aL [] []=[]:=rfl
theorem iR (y:Ent)(ys:List Ent):aL [] (y :: ys)=y :: aL [] ys:=by
 unfold aL;simp only[List.length_nil,List.length_cons,Nat.zero_add];rw[bB]
theorem jF (x:Ent)(xs:List Ent):aL (x :: xs) []=x :: aL xs []:=by
 unfold aL;simp only[List.length_nil,List.length_cons,Nat.add_zero];rw[bB]
theorem jE (x y:Ent)(xs ys:List Ent):aL (x :: xs) (y :: ys)=
  if ah x.row y.row<0 then x :: aL xs (y :: ys) else if 0<ah x.row y.row then y :: aL (x :: xs) ys else ⟨x.row,x.count+y.count⟩ :: aL xs ys:=by
 unfold aL;simp only[List.length_cons];rw[show xs.length+1+(ys.length+1)=(xs.length+(ys.length+1))+1 from by omega,bB];rw[dw (xs.length+(ys.length+1)) (x :: xs) ys (by simp;omega),dw (xs.length+(ys.length+1)) xs ys (by omega)];simp
theorem fO: ∀n xs ys,xs.length+ys.length<=n->(aL xs ys).length<=xs.length+ys.length
 | 0,xs,ys,h=>by
  rw[List.eq_nil_of_length_eq_zero (show xs.length=0 by omega),List.eq_nil_of_length_eq_zero (show ys.length=0 by omega)];simp[oD]
 |n+1,[],[],_=>by simp[oD]
 |n+1,[],y :: ys,h=>by
  have:=fO n [] ys (by simp at h⊢;omega);rw[iR];simp at*;omega
 |n+1,x :: xs,[],h=>by
  have:=fO n xs [] (by simp at h⊢;omega);rw[jF];simp at*;omega
 |n+1,x :: xs,y :: ys,h=>by
  have h1:=fO n xs (y :: ys) (by simp at h⊢;omega);have h2:=fO n (x :: xs) ys (by simp at h⊢;omega);have h3:=fO n xs ys (by simp at h⊢;omega);rw[jE]
  split
  ·simp at*;omega
  ·split
   ·simp at*;omega
   ·simp at*;omega
theorem il {C D:Int}(hC:0<=C)(hD:0<=D): ∀n xs ys,xs.length+ys.length<=n->oK C xs->oK D ys->oK (C+D) (aL xs ys)
 | 0,xs,ys,h,_,_=>by
  rw[List.eq_nil_of_length_eq_zero (show xs.length=0 by omega),List.eq_nil_of_length_eq_zero (show ys.length=0 by omega)];intro x hx;cases hx
 |n+1,[],[],_,_,_=>by intro x hx;cases hx
 |n+1,[],y :: ys,h,hx,hy=>by
  rw[iR];have ih:=il hC hD n [] ys (by simp at h⊢;omega) hx (λz hz=>hy z (List.mem_cons_of_mem _ hz));intro z hz;cases hz with
  |head=>have:=hy y (List.mem_cons_self ..);omega
  |tail _ hz=>exact ih z hz
 |n+1,x :: xs,[],h,hx,hy=>by
  rw[jF];have ih:=il hC hD n xs [] (by simp at h⊢;omega) (λz hz=>hx z (List.mem_cons_of_mem _ hz)) hy;intro z hz;cases hz with
  |head=>have:=hx x (List.mem_cons_self ..);omega
  |tail _ hz=>exact ih z hz
 |n+1,x :: xs,y :: ys,h,hx,hy=>by
  have hx1:=hx x (List.mem_cons_self ..);have hy1:=hy y (List.mem_cons_self ..);have i1:=il hC hD n xs (y :: ys) (by simp at h⊢;omega) (λz hz=>hx z (List.mem_cons_of_mem _ hz)) hy;have i2:=il hC hD n (x :: xs) ys (by simp at h⊢;omega) hx (λz hz=>hy z (List.mem_cons_of_mem _ hz));have i3:=il hC hD n xs ys (by simp at h⊢;omega) (λz hz=>hx z (List.mem_cons_of_mem _ hz)) (λz hz=>hy z (List.mem_cons_of_mem _ hz));rw[jE]
  split
  ·intro z hz;cases hz with
   |head=>omega
   |tail _ hz=>exact i1 z hz
  ·split
   ·intro z hz;cases hz with
    |head=>omega
    |tail _ hz=>exact i2 z hz
   ·intro z hz;cases hz with
    |head=>simp only;omega
    |tail _ hz=>exact i3 z hz
def dS:Nat->List Ent->List Ent
 | 0,l=>l
 |f+1,l=>if l.length<2 then l else aL (dS f (l.take (l.length / 2))) (dS f (l.drop (l.length / 2)))
def bz (l:List Ent):List Ent:=dS l.length l
theorem oI (m:Nat)(l:List Ent)(h:¬l.length<2):dS (m+1) l=aL (dS m (l.take (l.length / 2))) (dS m (l.drop (l.length / 2))):=by rw[dS,if_neg h]
theorem lc: ∀n (l:List Ent),l.length<=n-> ∀f,l.length<=f->dS f l=dS l.length l
 | 0,l,h,f,_=>by
  rw[List.eq_nil_of_length_eq_zero (show l.length=0 by omega)];cases f with
  |zero=>rfl
  |succ f=>rw[dS];rfl
 |n+1,l,h,f,hf=>by
  by_cases hl:l.length<2
  ·match l,hl,f,hf with
   | [],_,0,_=>rfl
   | [],_,f+1,_=>rw[dS];rfl
   | [x],_,f+1,_=>rw[dS];rfl
   |x :: y :: t,h,_,_=>simp at h;omega
  ·obtain ⟨m,hm⟩: ∃m,l.length=m+1:=⟨l.length-1,by omega⟩;obtain ⟨k,rfl⟩: ∃k,f=k+1:=⟨f-1,by omega⟩;have h1:(l.take (l.length / 2)).length<=m:=by rw[List.length_take];omega
   have h2:(l.drop (l.length / 2)).length<=m:=by rw[List.length_drop];omega
   have e:dS l.length l=dS (m+1) l:=congrArg (λn=>dS n l) hm;rw[e,oI k l hl,oI m l hl];have i1:=lc n (l.take (l.length / 2)) (by omega);have i2:=lc n (l.drop (l.length / 2)) (by omega);rw[i1 k (by omega),i2 k (by omega),i1 m h1,i2 m h2]
theorem jJ {l:List Ent}(h:l.length<2):bz l=l:=by
 match l,h with
 | [],_=>rfl
 | [x],_=>rfl
 |x :: y :: t,h=>simp at h;omega
theorem lg {l:List Ent}(h:¬l.length<2):bz l=aL (bz (l.take (l.length / 2))) (bz (l.drop (l.length / 2))):=by
 obtain ⟨m,hm⟩: ∃m,l.length=m+1:=⟨l.length-1,by omega⟩;have h1:(l.take (l.length / 2)).length<=m:=by rw[List.length_take];omega
 have h2:(l.drop (l.length / 2)).length<=m:=by rw[List.length_drop];omega
 have e:dS l.length l=dS (m+1) l:=congrArg (λn=>dS n l) hm;unfold bz;rw[e,oI m l h,lc m _ h1 m h1,lc m _ h2 m h2]
theorem kv: ∀n (l:List Ent),l.length<=n->(bz l).length<=l.length
 | 0,l,h=>by rw[List.eq_nil_of_length_eq_zero (show l.length=0 by omega)];simp[bz,dS]
 |n+1,l,h=>by
  by_cases hl:l.length<2
  ·rw[jJ hl];omega
  ·rw[lg hl];have h1:=kv n (l.take (l.length / 2)) (by rw[List.length_take];omega);have h2:=kv n (l.drop (l.length / 2)) (by rw[List.length_drop];omega);have h3:=fO _ (bz (l.take (l.length / 2))) (bz (l.drop (l.length / 2))) (Nat.le_refl _);rw[List.length_take]at h1;rw[List.length_drop]at h2;omega
theorem mX {C:Int}(hC:0<=C): ∀n (l:List Ent),l.length<=n->oK C l->oK (C*(l.length:Int)) (bz l)
 | 0,l,h,_=>by
  rw[List.eq_nil_of_length_eq_zero (show l.length=0 by omega)];intro x hx;cases hx
 |n+1,l,h,hb=>by
  by_cases hl:l.length<2
  ·rw[jJ hl];intro x hx;have h1:=hb x hx;have h2:l.length=1:=by have:=List.length_pos_of_mem hx;omega
   simp[h2];omega
  ·rw[lg hl];have h1:(l.take (l.length / 2)).length=l.length / 2:=by rw[List.length_take];omega
   have h2:(l.drop (l.length / 2)).length=l.length-l.length / 2:=by rw[List.length_drop]
   have b1:=mX hC n (l.take (l.length / 2)) (by omega) (λx hx=>hb x (List.mem_of_mem_take hx));have b2:=mX hC n (l.drop (l.length / 2)) (by omega) (λx hx=>hb x (List.mem_of_mem_drop hx));rw[h1]at b1;rw[h2]at b2;have:=il (Int.mul_nonneg hC (by omega)) (Int.mul_nonneg hC (by omega)) _ _ _ (Nat.le_refl _) b1 b2;rw[<-Int.mul_add]at this;rw[show ((l.length / 2:Nat):Int)+((l.length-l.length / 2:Nat):Int)=(l.length:Int) from by omega]at this;exact this
def aY (l:List Ent):List Ent:=l.filter λx=>!(x.count==0)
def aZ:Nat->List Ent->Bool
 | _,[]=>false
 |m,x :: l=>if x.count=0 then aZ m l else (decide (x.count < -65536) || decide (65536<x.count) || decide (m=4096)) || aZ (m+1) l
structure Total {α:Type} (c:α->α->Int):Prop where
 zero: ∀a b,c a b=0↔a=b
 anti: ∀a b,c a b<0↔0<c b a
 trans: ∀a b d,c a b<0->c b d<0->c a d<0
theorem Total.self {α:Type}{c:α->α->Int}(h:Total c)(a:α):c a a=0:=(h.zero a a).2 rfl
theorem Total.lt_of {α:Type}{c:α->α->Int}(h:Total c){a b:α}(h1:¬c a b<0)(h2:¬c a b=0):c b a<0:=(h.anti b a).2 (by omega)
theorem J6 {a b:Int}:eD a b<0↔a<b:=by rw[eD];(repeat' split) <;> omega
theorem rV {a b:Int}:eD a b=0↔a=b:=by rw[eD];(repeat' split) <;> omega
theorem ql: ∀l:List UInt8,Op.bytesLess l l=false
 | []=>rfl
 |x :: l=>by simp[Op.bytesLess,ql l]
theorem Ca {x y:UInt8}{l m:List UInt8}:Op.bytesLess (x :: l) (y :: m)=true↔x.toNat<y.toNat\/(x=y/\Op.bytesLess l m=true):=by
 simp only[Op.bytesLess,Bool.or_eq_true,Bool.and_eq_true,decide_eq_true_eq,beq_iff_eq];exact Iff.rfl
theorem sF: ∀l m n:List UInt8,Op.bytesLess l m=true->Op.bytesLess m n=true->Op.bytesLess l n=true
 | _,_,[],_,h=>by simp[Op.bytesLess]at h
 | [],_,_ :: _,_,_=>rfl
 | _ :: _,[],_ :: _,h,_=>by simp[Op.bytesLess]at h
 |x :: l,y :: m,z :: n,h,h'=>by
  rw[Ca]at h h'⊢;rcases h with h|⟨rfl,h⟩
  ·rcases h' with h'|⟨rfl,h'⟩
   ·exact .inl (by omega)
   ·exact .inl h
  ·rcases h' with h'|⟨rfl,h'⟩
   ·exact .inl h'
   ·exact .inr ⟨rfl,sF l m n h h'⟩
theorem EK: ∀(l m:List UInt8),Op.bytesLess l m=false->Op.bytesLess m l=false->l=m
 | [],[]=>λ_ _=>rfl
 | [],_ :: _=>λh _=>by simp[Op.bytesLess]at h
 | _ :: _,[]=>λ_ h=>by simp[Op.bytesLess]at h
 |x :: l,y :: m=>λh h'=>by
  have h1:¬Op.bytesLess (x :: l) (y :: m)=true:=by rw[h];simp
  have h2:¬Op.bytesLess (y :: m) (x :: l)=true:=by rw[h'];simp
  rw[Ca]at h1 h2;have e:x=y:=UInt8.toNat_inj.1 (by omega);subst e;rw[EK l m (by cases q:Op.bytesLess l m;rfl;exact absurd (.inr ⟨rfl,q⟩) h1) (by cases q:Op.bytesLess m l;rfl;exact absurd (.inr ⟨rfl,q⟩) h2)]
theorem ba_eq {a b:ByteArray}(h:a.toList=b.toList):a=b:=by
 rw[ByteArray.toList_eq,ByteArray.toList_eq]at h;obtain ⟨⟨a⟩⟩:=a;obtain ⟨⟨b⟩⟩:=b;simp at h;rw[h]
theorem sJ {a b:ByteArray}:dY a b<0↔Op.bytesLess a.toList b.toList=true:=by
 rw[dY]
 split
 ·simp_all
 ·split <;> simp_all
theorem mJ {a b:ByteArray}:dY a b=0↔a=b:=by
 rw[dY]
 split
 ·rename_i h;constructor
  ·intro q;omega
  ·intro q;rw[q,ql]at h;cases h
 ·split
  ·rename_i h;exact ⟨λ_=>ba_eq h,λ_=>rfl⟩
  ·rename_i h;exact ⟨λq=>absurd q (by omega),λq=>absurd (by rw[q]) h⟩
theorem mY:Total dY:=by
 refine ⟨λ_ _=>mJ,λa b=>?_,λa b d h h'=>?_⟩
 ·constructor
  ·intro h;have h1:¬dY b a<0:=λq=>by
    have:=sF _ _ _ (sJ.1 h) (sJ.1 q);rw[ql]at this;cases this
   have h2:¬dY b a=0:=λq=>by
    rw[mJ]at q;subst q;rw[mJ.2 rfl]at h;omega
   omega
  ·intro h;by_cases q:dY a b<0
   ·exact q
   ·have h1:Op.bytesLess a.toList b.toList=false:=by cases e:Op.bytesLess a.toList b.toList;rfl;exact absurd (sJ.2 e) q
    have h2:Op.bytesLess b.toList a.toList=false:=by cases e:Op.bytesLess b.toList a.toList;rfl;have:=sJ.2 e;omega
    have:=ba_eq (EK _ _ h1 h2);subst this;rw[mJ.2 rfl]at h;omega
 ·exact sJ.2 (sF _ _ _ (sJ.1 h) (sJ.1 h'))
theorem Cf {a b:Val}:bD a b<0↔a.kind<b.kind\/(a.kind=b.kind/\(a.num<b.num\/(a.num=b.num/\dY a.str b.str<0))):=by
 rw[bD];have h1:=@rV a.kind b.kind;have h2:=@rV a.num b.num;have h3:=@J6 a.kind b.kind;have h4:=@J6 a.num b.num
 split
 ·rename_i h;constructor <;> intro q <;> omega
 ·split
  ·constructor <;> intro q <;> omega
  ·constructor
   ·intro q;exact .inr ⟨by omega,.inr ⟨by omega,q⟩⟩
   ·intro q;omega
theorem kQ {a b:Val}:bD a b=0↔a=b:=by
 obtain ⟨k,n,s⟩:=a;obtain ⟨k',n',s'⟩:=b;rw[bD];have h1:=@rV k k';have h2:=@rV n n';have h3:=@mJ s s';simp only
 split
 ·rename_i h;exact ⟨λq=>absurd q h,λq=>by injection q with q;exact absurd (h1.2 q) h⟩
 ·split
  ·rename_i h;exact ⟨λq=>absurd q h,λq=>by injection q with q q1;exact absurd (h2.2 q1) h⟩
  ·rename_i g h;constructor
   ·intro q;rw[h1.1 (by omega),h2.1 (by omega),h3.1 q]
   ·intro q;injection q with _ _ q;exact h3.2 q
theorem iX:Total bD:=by
 refine ⟨λ_ _=>kQ,λa b=>?_,λa b d h h'=>?_⟩
 ·have g: ∀a b:Val,bD a b<0->0<bD b a:=λa b h=>by
   rw[Cf]at h;have h1:¬bD b a<0:=by
    rw[Cf];intro q;have:dY a.str b.str<0->dY b.str a.str<0->False:=λp p'=>by have:=(mY.anti _ _).1 p;omega
    rcases h with h|⟨h,h|⟨h2,h⟩⟩ <;> rcases q with q|⟨q,q|⟨q2,q⟩⟩ <;> first|omega|exact this h q
   have h2:¬bD b a=0:=by
    rw[kQ];rintro rfl;have:=(mY.zero b.str b.str).2 rfl;rcases h with h|⟨_,h|⟨_,h⟩⟩ <;> omega
   omega
  constructor
  ·exact g a b
  ·intro h;by_cases q:bD a b<0
   ·exact q
   ·have h2:¬bD a b=0:=by
     rw[kQ];rintro rfl;rw[kQ.2 rfl]at h;omega
    exfalso;have h3:¬bD b a<0:=by omega
    rw[Cf]at q h3;rcases Int.lt_trichotomy a.kind b.kind with e|e|e
    ·exact q (.inl e)
    ·rcases Int.lt_trichotomy a.num b.num with e'|e'|e'
     ·exact q (.inr ⟨e,.inl e'⟩)
     ·by_cases c1:dY a.str b.str<0
      ·exact q (.inr ⟨e,.inr ⟨e',c1⟩⟩)
      ·by_cases c2:dY a.str b.str=0
       ·apply h2;rw[kQ];obtain ⟨k,n,s⟩:=a;obtain ⟨k',n',s'⟩:=b;rw[mJ]at c2;simp only at e e' c2;rw[e,e',c2]
       ·exact h3 (.inr ⟨e.symm,.inr ⟨e'.symm,mY.lt_of c1 c2⟩⟩)
     ·exact h3 (.inr ⟨e.symm,.inl e'⟩)
    ·exact h3 (.inl e)
 ·rw[Cf]at h h'⊢;have:=mY.trans a.str b.str d.str;rcases h with h|⟨h,h|⟨h2,h⟩⟩ <;> rcases h' with q|⟨q,q|⟨q2,q⟩⟩
  all_goals first|exact .inl (by omega)|exact .inr ⟨by omega,.inl (by omega)⟩|exact .inr ⟨by omega,.inr ⟨by omega,this h q⟩⟩
theorem aS: ∀{a b:List Val},ah a b=0↔a=b
 | [],[]=>by simp[ah]
 | [],_ :: _=>by simp[ah]
 | _ :: _,[]=>by simp[ah]
 |x :: l,y :: m=>by
  have ih:=@aS l m;have h:=@kQ x y;rw[ah]
  split
  ·rename_i g;exact ⟨λq=>absurd q g,λq=>by injection q with q;exact absurd (h.2 q) g⟩
  ·rename_i g;rw[ih,h.1 (by omega)];simp
theorem IP {x y:Val}{l m:List Val}:ah (x :: l) (y :: m)<0↔bD x y<0\/(x=y/\ah l m<0):=by
 have h:=@kQ x y;rw[ah]
 split
 ·rename_i g;exact ⟨λq=>.inl q,λq=>by rcases q with q|⟨q,_⟩;exact q;exact absurd (h.2 q) g⟩
 ·rename_i g;exact ⟨λq=>.inr ⟨h.1 (by omega),q⟩,λq=>by rcases q with q|⟨_,q⟩;omega;exact q⟩
theorem wV: ∀{a b:List Val},ah a b<0↔0<ah b a
 | [],[]=>by simp[ah]
 | [],_ :: _=>by simp[ah]
 | _ :: _,[]=>by simp[ah]
 |x :: l,y :: m=>by
  have ih:=@wV l m;have h:=iX.anti x y;have h0:=iX.zero x y;have h1:=iX.zero y x;rw[ah,ah];by_cases e:x=y
  ·subst e;rw[if_neg (by rw[iX.self];simp),if_neg (by rw[iX.self];simp)];exact ih
  ·rw[if_pos (λq=>e (h0.1 q)),if_pos (λq=>e (h1.1 q).symm)];exact h
theorem jb: ∀{a b d:List Val},ah a b<0->ah b d<0->ah a d<0
 | _,[],[],_,h=>by simp[ah]at h
 | _,_ :: _,[],_,h=>by simp[ah]at h
 | [],_,_ :: _,_,_=>by simp[ah]
 | _ :: _,[],_ :: _,h,_=>by simp[ah]at h
 |x :: l,y :: m,z :: n,h,h'=>by
  rw[IP]at h h'⊢;rcases h with h|⟨rfl,h⟩
  ·rcases h' with h'|⟨rfl,h'⟩
   ·exact .inl (iX.trans _ _ _ h h')
   ·exact .inl h
  ·rcases h' with h'|⟨rfl,h'⟩
   ·exact .inl h'
   ·exact .inr ⟨rfl,jb h h'⟩
theorem BH:Total ah:=⟨λ_ _=>aS,λ_ _=>wV,λ_ _ _=>jb⟩
def cnt:List Ent->List Val->Int
 | [],_=>0
 |x :: l,r=>(if ah x.row r=0 then x.count else 0)+cnt l r
def eu (l:List Ent):Prop:=l.Pairwise λx y=>ah x.row y.row<0
def Mt (l:List Ent):Prop:= ∀x∈l,x.count≠0
theorem iO (l m:List Ent)(r:List Val):cnt (l++m) r=cnt l r+cnt m r:=by
 induction l with
 |nil=>simp[cnt]
 |cons x l ih=>rw[List.cons_append,cnt,cnt,ih];omega
theorem dE {l:List Ent}{r:List Val}(h: ∀x∈l,ah x.row r≠0):cnt l r=0:=by
 induction l with
 |nil=>rfl
 |cons x l ih=>rw[cnt,if_neg (h x (by simp)),ih λy hy=>h y (by simp[hy])];rfl
theorem cnt_perm {l m:List Ent}(h:l.Perm m)(r:List Val):cnt l r=cnt m r:=by
 induction h with
 |nil=>rfl
 |cons x _ ih=>rw[cnt,cnt,ih]
 |swap x y l=>rw[cnt,cnt,cnt,cnt];omega
 |trans _ _ h1 h2=>rw[h1,h2]
theorem eu.tail {x:Ent}{l:List Ent}(h:eu (x :: l)):eu l:=(List.pairwise_cons.1 h).2
theorem eu.head {x:Ent}{l:List Ent}(h:eu (x :: l)): ∀y∈l,ah x.row y.row<0:=(List.pairwise_cons.1 h).1
theorem eu.filter {l:List Ent}(h:eu l)(p:Ent->Bool):eu (l.filter p):=List.Pairwise.filter p h
theorem eu.head_zero {x:Ent}{l:List Ent}(h:eu (x :: l)):cnt l x.row=0:=
 dE λy hy q=>by
  have h1:=h.head y hy;have h2:=aS.1 q;rw[h2,aS.2 rfl]at h1;omega
theorem eu.mem {l:List Ent}(h:eu l){x:Ent}(hx:x∈l):cnt l x.row=x.count:=by
 induction l with
 |nil=>cases hx
 |cons y l ih=>
  rw[cnt];rcases List.mem_cons.1 hx with rfl|hx
  ·rw[if_pos (aS.2 rfl),h.head_zero];omega
  ·have h1:=h.head x hx;rw[if_neg (by omega),ih h.tail hx];omega
theorem wP: ∀{l m:List Ent},eu l->eu m->Mt l->Mt m->(∀r,cnt l r=cnt m r)->l=m
 | [],[],_,_,_,_,_=>rfl
 | [],y :: m,_,hm,_,hz,h=>by
  have:=h y.row;rw[hm.mem (by simp),cnt]at this;exact absurd this.symm (hz y (by simp))
 |x :: l,[],hl,_,hz,_,h=>by
  have:=h x.row;rw[hl.mem (by simp),cnt]at this;exact absurd this (hz x (by simp))
 |x :: l,y :: m,hl,hm,hz,hz',h=>by
  have hx:=hl.mem (x:=x) (by simp);have hy:=hm.mem (x:=y) (by simp);have n1:¬ah x.row y.row<0:=λq=>by
   have:cnt (y :: m) x.row=0:=dE λz hz0 e=>by
    have e:=aS.1 e;rcases List.mem_cons.1 hz0 with rfl|hz0
    ·rw[e,aS.2 rfl]at q;omega
    ·have:=jb q (hm.head z hz0);rw[e,aS.2 rfl]at this;omega
   rw[<-h,hx]at this;exact hz x (by simp) this
  have n2:¬ah y.row x.row<0:=λq=>by
   have:cnt (x :: l) y.row=0:=dE λz hz0 e=>by
    have e:=aS.1 e;rcases List.mem_cons.1 hz0 with rfl|hz0
    ·rw[e,aS.2 rfl]at q;omega
    ·have:=jb q (hl.head z hz0);rw[e,aS.2 rfl]at this;omega
   rw[h,hy]at this;exact hz' y (by simp) this
  have e:x.row=y.row:=by
   by_cases q:ah x.row y.row=0
   ·exact aS.1 q
   ·exact absurd (BH.lt_of n1 q) n2
  have e2:x.count=y.count:=by rw[<-hx,<-hy,h,e]
  have e3:x=y:=by
   obtain ⟨a,b⟩:=x;obtain ⟨c,d⟩:=y;simp only at e e2;rw[e,e2]
  subst e3;rw[wP hl.tail hm.tail (λz q=>hz z (by simp[q])) (λz q=>hz' z (by simp[q])) λr=>by
   have:=h r;rw[cnt,cnt]at this;omega]
theorem bO {P:List Val->Prop}: ∀f xs ys,(∀x∈xs,P x.row)->(∀x∈ys,P x.row)-> ∀x∈bB f xs ys,P x.row
 | 0,_,_=>λ_ _ x hx=>by simp[bB]at hx
 |f+1,[],[]=>λ_ _ x hx=>by simp[bB]at hx
 |f+1,[],y :: ys=>λh h' x hx=>by
  rw[bB]at hx;rcases List.mem_cons.1 hx with rfl|hx
  ·exact h' _ (by simp)
  ·exact bO f [] ys h (λz hz=>h' z (by simp[hz])) x hx
 |f+1,x :: xs,[]=>λh h' z hx=>by
  rw[bB]at hx;rcases List.mem_cons.1 hx with rfl|hx
  ·exact h _ (by simp)
  ·exact bO f xs [] (λz hz=>h z (by simp[hz])) h' z hx
 |f+1,x :: xs,y :: ys=>λh h' z hx=>by
  rw[bB]at hx
  split at hx
  ·rcases List.mem_cons.1 hx with rfl|hx
   ·exact h _ (by simp)
   ·exact bO f xs (y :: ys) (λz hz=>h z (by simp[hz])) h' z hx
  ·split at hx
   ·rcases List.mem_cons.1 hx with rfl|hx
    ·exact h' _ (by simp)
    ·exact bO f (x :: xs) ys h (λz hz=>h' z (by simp[hz])) z hx
   ·rcases List.mem_cons.1 hx with rfl|hx
    ·exact h x (by simp)
    ·exact bO f xs ys (λz hz=>h z (by simp[hz])) (λz hz=>h' z (by simp[hz])) z hx
theorem ik: ∀f xs ys,xs.length+ys.length<=f-> ∀r,cnt (bB f xs ys) r=cnt xs r+cnt ys r
 | 0,xs,ys=>λh r=>by
  have h1:xs=[]:=List.length_eq_zero_iff.1 (by omega);have h2:ys=[]:=List.length_eq_zero_iff.1 (by omega);subst h1 h2;rfl
 |f+1,[],[]=>λh r=>rfl
 |f+1,[],y :: ys=>λh r=>by
  simp only[bB,cnt,ik f [] ys (by simp at h⊢;omega) r];omega
 |f+1,x :: xs,[]=>λh r=>by
  simp only[bB,cnt,ik f xs [] (by simp at h⊢;omega) r];omega
 |f+1,x :: xs,y :: ys=>λh r=>by
  simp only[List.length_cons]at h;rw[bB]
  split
  ·rw[cnt,ik f xs (y :: ys) (by simp;omega),cnt,cnt];omega
  ·split
   ·rw[cnt,ik f (x :: xs) ys (by simp;omega),cnt,cnt];omega
   ·have e:x.row=y.row:=aS.1 (by omega);rw[cnt,ik f xs ys (by omega),cnt,cnt,e];simp only
    split <;> omega
theorem ig: ∀f xs ys,eu xs->eu ys->eu (bB f xs ys)
 | 0,_,_=>λ_ _=>List.Pairwise.nil
 |f+1,[],[]=>λ_ _=>List.Pairwise.nil
 |f+1,[],y :: ys=>λh h'=>by
  rw[bB];exact List.pairwise_cons.2 ⟨bO (P:=λr=>ah y.row r<0) f [] ys (λz hz=>by cases hz) h'.head,ig f [] ys h h'.tail⟩
 |f+1,x :: xs,[]=>λh h'=>by
  rw[bB];exact List.pairwise_cons.2 ⟨bO (P:=λr=>ah x.row r<0) f xs [] h.head (λz hz=>by cases hz),ig f xs [] h.tail h'⟩
 |f+1,x :: xs,y :: ys=>λh h'=>by
  rw[bB]
  split
  ·rename_i q;exact List.pairwise_cons.2 ⟨bO (P:=λr=>ah x.row r<0) f xs (y :: ys) h.head (λz hz=>by
    rcases List.mem_cons.1 hz with rfl|hz
    ·exact q
    ·exact jb q (h'.head z hz)),ig f xs (y :: ys) h.tail h'⟩
  ·split
   ·rename_i _ q;have q:=wV.2 q;exact List.pairwise_cons.2 ⟨bO (P:=λr=>ah y.row r<0) f (x :: xs) ys (λz hz=>by
     rcases List.mem_cons.1 hz with rfl|hz
     ·exact q
     ·exact jb q (h.head z hz)) h'.head,ig f (x :: xs) ys h h'.tail⟩
   ·have e:x.row=y.row:=aS.1 (by omega);exact List.pairwise_cons.2 ⟨bO (P:=λr=>ah x.row r<0) f xs ys h.head (λz hz=>by rw[e];exact h'.head z hz),ig f xs ys h.tail h'.tail⟩
theorem tX (xs ys:List Ent)(r:List Val):cnt (aL xs ys) r=cnt xs r+cnt ys r:=ik _ _ _ (Nat.le_refl _) r
theorem tV {xs ys:List Ent}(h:eu xs)(h':eu ys):eu (aL xs ys):=ig _ _ _ h h'
theorem qK: ∀f (l:List Ent) (r:List Val),cnt (dS f l) r=cnt l r
 | 0,l,r=>rfl
 |f+1,l,r=>by
  rw[dS]
  split
  ·rfl
  ·rw[tX,qK f,qK f,<-iO,List.take_append_drop]
theorem qJ: ∀f (l:List Ent),l.length<=f->eu (dS f l)
 | 0,l,h=>by
  have h1:l=[]:=List.length_eq_zero_iff.1 (by omega);subst h1;exact List.Pairwise.nil
 |f+1,l,h=>by
  rw[dS]
  split
  ·rename_i q
   match l,q with
   | [],_=>exact List.Pairwise.nil
   | [x],_=>exact List.pairwise_singleton _ _
   | _ :: _ :: _,q=>exact absurd q (by simp)
  ·exact tV (qJ f _ (by rw[List.length_take];omega)) (qJ f _ (by rw[List.length_drop];omega))
theorem gu (l:List Ent)(r:List Val):cnt (bz l) r=cnt l r:=qK _ _ _
theorem iA (l:List Ent):eu (bz l):=qJ _ _ (Nat.le_refl _)
theorem eU (l:List Ent)(r:List Val):cnt (aY l) r=cnt l r:=by
 induction l with
 |nil=>rfl
 |cons x l ih=>
  rw[aY]at ih⊢;by_cases q:x.count=0
  ·rw[List.filter_cons_of_neg (by simp[q]),ih,cnt,q];simp
  ·rw[List.filter_cons_of_pos (by simp[q]),cnt,ih,cnt]
theorem fU {l:List Ent}(h:eu l):eu (aY l):=h.filter _
theorem dW (l:List Ent):Mt (aY l):=λx hx=>by
 have:=(List.mem_filter.1 hx).2;simpa using this
theorem Dq {l:List Ent}: ∀x∈aY l,x∈l:=λx hx=>(List.mem_filter.1 hx).1
theorem zi {xs ys:List Ent}(h:eu ys)(hc: ∀r,cnt ys r=cnt xs r):aY ys=aY (bz xs):=
 wP (fU h) (fU (iA xs)) (dW _) (dW _) λr=>by rw[eU,eU,gu,hc]
theorem gq: ∀(l:List Ent) (m:Nat),aZ m (aY l)=aZ m l
 | [],m=>rfl
 |x :: l,m=>by
  have ih:=gq l;by_cases q:x.count=0
  ·rw[show aY (x :: l)=aY l from List.filter_cons_of_neg (by simp[q]),ih,aZ,if_pos q]
  ·rw[show aY (x :: l)=x :: aY l from List.filter_cons_of_pos (by simp[q]),aZ,aZ,if_neg q,if_neg q,ih]
def gV (xs:List Ent):Int×List Ent:=if aZ 0 (bz xs)=true then (2,[]) else (0,aY (bz xs))
theorem IE {xs ys:List Ent}(h:eu ys)(hc: ∀r,cnt ys r=cnt xs r):gV xs=if aZ 0 ys=true then (2,[]) else (0,aY ys):=by
 rw[gV,<-gq (bz xs),<-zi h hc,gq]
theorem kY: ∀(l:List Ent) (m:Nat),Mt l->m<=4096->(aZ m l=false↔(∀x∈l, -65536<=x.count/\x.count<=65536)/\m+l.length<=4096)
 | [],m,_,hm=>by simp[aZ];omega
 |x :: l,m,h,hm=>by
  have hx:x.count≠0:=h x (by simp);rw[aZ,if_neg hx];by_cases q:m=4096
  ·subst q;simp
  ·have ih:=kY l (m+1) (λy hy=>h y (by simp[hy])) (by omega);simp only[Bool.or_eq_false_iff,decide_eq_false_iff_not,ih,List.mem_cons,List.length_cons,forall_eq_or_imp];constructor
   ·rintro ⟨⟨⟨a,b⟩,_⟩,c,d⟩;exact ⟨⟨⟨by omega,by omega⟩,c⟩,by omega⟩
   ·rintro ⟨⟨⟨a,b⟩,c⟩,d⟩;exact ⟨⟨⟨by omega,by omega⟩,q⟩,c,by omega⟩
theorem mO {α:Type}{f:Nat->α->Int}: ∀{l:List α} {k:Nat},ag f k l=0↔ ∀j x,l[j]?=some x->f (k+j) x=0
 | [],k=>by simp[ag]
 |y :: l,k=>by
  have ih:=@mO α f l (k+1);rw[ag];by_cases hy:f k y=0
  ·rw[if_neg (by simpa using hy),ih];constructor
   ·intro h j x hx;cases j with
    |zero=>simp at hx;subst hx;exact hy
    |succ j=>have:=h j x (by simpa using hx);rw[show k+(j+1)=k+1+j by omega];exact this
   ·intro h j x hx;have:=h (j+1) x (by simpa using hx);rw[show k+(j+1)=k+1+j by omega]at this;exact this
  ·rw[if_pos hy];constructor
   ·intro h;exact absurd h hy
   ·intro h;exact absurd (h 0 y (by simp)) hy
theorem kK {b:List Ent}{i:Nat}{x:Ent}:bI b i x=0↔aA x=0/\x.count≠0/\(0<i->ah (b.getD (i-1) default).row x.row<0):=by
 rw[bI];by_cases h1:aA x=0
 ·rw[if_neg (by simpa using h1)];by_cases h2:x.count=0
  ·simp[h1,h2]
  ·rw[if_neg h2];by_cases h3:0<i/\0<=ah (b.getD (i-1) default).row x.row
   ·rw[if_pos h3];constructor
    ·intro q;omega
    ·rintro ⟨_,_,q⟩;have:=q h3.1;omega
   ·rw[if_neg h3];simp only[true_iff];exact ⟨h1,h2,λq=>by
     by_cases g:ah (b.getD (i-1) default).row x.row<0
     ·exact g
     ·exact absurd ⟨q,by omega⟩ h3⟩
 ·rw[if_pos h1];simp[h1]
theorem oU: ∀{l:List Ent},(∀j x y,l[j]?=some x->l[j+1]?=some y->ah x.row y.row<0)->eu l
 | [],_=>List.Pairwise.nil
 | [x],_=>List.pairwise_singleton _ _
 |x :: y :: l,h=>by
  have h1:=h 0 x y rfl rfl;have ih:eu (y :: l):=oU λj a b ha hb=>h (j+1) a b (by simpa using ha) (by simpa using hb);refine List.pairwise_cons.2 ⟨λz hz=>?_,ih⟩;rcases List.mem_cons.1 hz with rfl|hz
  ·exact h1
  ·exact jb h1 (ih.head z hz)
theorem dM {b:List Ent}:au b=0↔b.length<=4096/\(∀x∈b,aA x=0/\x.count≠0)/\eu b:=by
 rw[au];by_cases hl:4096<b.length
 ·rw[if_pos hl];constructor
  ·intro q;omega
  ·rintro ⟨q,_⟩;omega
 ·rw[if_neg hl,mO];have hl':b.length<=4096:=by omega
  constructor
  ·intro h;refine ⟨hl',λx hx=>?_,oU λj x y hx hy=>?_⟩
   ·obtain ⟨j,hj⟩:=List.mem_iff_getElem?.1 hx;have:=kK.1 (h j x hj);exact ⟨this.1,this.2.1⟩
   ·have:=(kK.1 (h (j+1) y hy)).2.2 (by omega);rw[show (0+(j+1)-1)=j by omega,List.getD_eq_getElem?_getD,hx]at this;exact this
  ·rintro ⟨_,h1,h2⟩ j x hx;have hm:=List.mem_iff_getElem?.2 ⟨j,hx⟩;refine kK.2 ⟨(h1 x hm).1,(h1 x hm).2,λhj=>?_⟩;obtain ⟨hlt,he⟩:=List.getElem?_eq_some_iff.1 hx;have:=List.pairwise_iff_getElem.1 h2 (0+j-1) j (by omega) hlt (by omega);rw[he]at this;rw[List.getD_eq_getElem?_getD,List.getElem?_eq_getElem (by omega)];exact this
theorem wX {x:Ent}(h:aA x=0): -65536<=x.count/\x.count<=65536/\x.row.length<=12:=by
 rw[aA]at h
 split at h
 ·omega
 ·omega
theorem mr {P:List Val->Prop}: ∀f (l:List Ent),(∀x∈l,P x.row)-> ∀x∈dS f l,P x.row
 | 0,l,h=>h
 |f+1,l,h=>by
  rw[dS]
  split
  ·exact h
  ·exact bO _ _ _ (mr f _ λx hx=>h x (List.mem_of_mem_take hx)) (mr f _ λx hx=>h x (List.mem_of_mem_drop hx))
theorem mI {P:List Val->Prop}{xs:List Ent}(h: ∀x∈xs,P x.row): ∀x∈(gV xs).2,P x.row:=by
 rw[gV]
 split
 ·intro x hx;cases hx
 ·intro x hx;exact mr _ xs h x (Dq x hx)
theorem yh (xs:List Ent):(gV xs).1=0\/((gV xs).1=2/\(gV xs).2=[]):=by
 rw[gV];split <;> simp
theorem sD {xs:List Ent}(h:(gV xs).1=0)(r:List Val):cnt (gV xs).2 r=cnt xs r:=by
 rw[gV]at h⊢
 split
 ·rename_i q;rw[if_pos q]at h;cases h
 ·rw[eU,gu]
theorem kR {x:Ent}:aA x=0↔(-65536<=x.count/\x.count<=65536)/\x.row.length<=12/\ ∀v∈x.row,valid v=true:=by
 rw[aA]
 split
 ·rename_i h;constructor
  ·intro q;omega
  ·rintro ⟨q,q1,_⟩;omega
 ·rename_i h;rw[mO];constructor
  ·intro q;refine ⟨by omega,by omega,λv hv=>?_⟩;obtain ⟨j,hj⟩:=List.mem_iff_getElem?.1 hv;have:=q j v hj
   split at this
   ·assumption
   ·omega
  ·rintro ⟨_,_,q⟩ j v hj;rw[if_pos (q v (List.mem_iff_getElem?.2 ⟨j,hj⟩))]
theorem rT {xs:List Ent}(h: ∀x∈xs,aA x=0):au (gV xs).2=0:=by
 have hr:=mI (P:=λr=>r.length<=12/\ ∀v∈r,valid v=true) (xs:=xs) λx hx=>(kR.1 (h x hx)).2;rw[gV]at hr⊢
 split
 ·rfl
 ·rename_i q;rw[if_neg q]at hr;have q:aZ 0 (aY (bz xs))=false:=by rw[gq];simpa using q
  obtain ⟨h1,h2⟩:=(kY _ 0 (dW _) (by omega)).1 q;exact dM.2 ⟨by simpa using h2,λx hx=>⟨kR.2 ⟨h1 x hx,hr x hx⟩,dW _ x hx⟩,fU (iA _)⟩
end Go.Proofs.YtopjjlmfilgngaaGreatDoor
