/-
  How data lies in memory: a class 'Rep' (what cells of a world a datum reads as), with its instances for ints, bools, strings, slices and the structs of package api; its frame; and the road from the claim's own reading ('DataW.trod') to it. No program is in sight. Plain functions, no program in sight: the values, columns, rows, bags and relations of chapters 1, 5, 6 and 19, as both texts compute them. Plain functions, no program in sight: expressions (chapter 8), their types and values (chapter 9), zones and days (chapter 4), checked arithmetic (chapter 2), as both texts compute them. Plain functions, no program in sight: merging, sorting and normalizing lists of entries (chapter 6), as the reference does it. Plain law: the orders of strings, values and rows are total orders. No program is in sight. Plain law of bags: a bag is told by its counts; merging and sorting add counts; Normalize's answer depends on the counts alone. No program is in sight.
-/
import Derived.WalkKit
import Derived.Deep.Slices
import Derived.ChangeSame
namespace Go.Proofs.YtopjjlmfilgngaaGreatDoor
set_option linter.unusedVariables false
set_option linter.unusedSimpArgs false
open Go.RowKit Go.ChangeShapes Go.WideShapes
def Same (S:Nat->Prop)(w w':World):Prop:= ∀k,S k->w'.heap[k]?=w.heap[k]?
theorem Same.refl (S:Nat->Prop)(w:World):Same S w w:=λ_ _=>rfl
theorem Same.trans {S:Nat->Prop}{a b c:World}(h:Same S a b)(h':Same S b c):Same S a c:=λk hk=>(h' k hk).trans (h k hk)
theorem Same.sub {S T:Nat->Prop}{a b:World}(h:Same T a b)(hs: ∀k,S k->T k):Same S a b:=λk hk=>h k (hs k hk)
theorem Same.below {B:Nat}{w w':World}(h:Below B w w'):Same (· < B) w w':=λk hk=>h.block k hk
theorem Same.cell {S:Nat->Prop}{w w':World}(h:Same S w w'){a:Addr}(ha:S a.block):w'.cell? a=w.cell? a:=World.cell?_of_block (w:=w) (h _ ha)
class Rep (α:Type) where
 size:Nat
 rd:World->(Nat->Prop)->List Value->α->Prop
 len: ∀{w:World} {S:Nat->Prop} {cs:List Value} {a:α},rd w S cs a->cs.length=size
 keep: ∀{w w':World} {S:Nat->Prop} {cs:List Value} {a:α},Same S w w'->rd w S cs a->rd w' S cs a
 mono: ∀{w:World} {S T:Nat->Prop} {cs:List Value} {a:α},(∀k,S k->T k)->rd w S cs a->rd w T cs a
def dB (n:Int):Prop:= -9223372036854775808<=n/\n<=9223372036854775807
instance:Rep Int where
 size:=1
 rd _ _ cs n:=cs=[.int .i64 n]/\dB n
 len h:=by rw[h.1];rfl
 keep _ h:=h
 mono _ h:=h
instance:Rep Bool where
 size:=1
 rd _ _ cs b:=cs=[.bool b]
 len h:=by rw[h];rfl
 keep _ h:=h
 mono _ h:=h
instance:Rep ByteArray where
 size:=1
 rd _ _ cs s:=cs=[.string s]/\s.size<=9223372036854775807
 len h:=by rw[h.1];rfl
 keep _ h:=h
 mono _ h:=h
def At {α:Type}[Rep α](w:World)(S:Nat->Prop)(b off:Nat)(a:α):Prop:=
 ∃cs:List Value,Rep.rd w S cs a/\ ∀j,(hj:j<cs.length)->w.cell? ⟨b,off+j,none⟩=some cs[j]
theorem At.keep {α:Type}[Rep α]{w w':World}{S:Nat->Prop}{b off:Nat}{a:α}(hb:S b)(hs:Same S w w')(h:At w S b off a):At w' S b off a:=by
 obtain ⟨cs,h1,h2⟩:=h;exact ⟨cs,Rep.keep hs h1,λj hj=>(hs.cell (a:=⟨b,off+j,none⟩) hb).trans (h2 j hj)⟩
theorem At.mono {α:Type}[Rep α]{w:World}{S T:Nat->Prop}{b off:Nat}{a:α}(hs: ∀k,S k->T k)(h:At w S b off a):At w T b off a:=by
 obtain ⟨cs,h1,h2⟩:=h;exact ⟨cs,Rep.mono hs h1,h2⟩
def Sl {α:Type}[Rep α](w:World)(S:Nat->Prop)(A:Option Addr)(n c:Nat)(xs:List α):Prop:=
 xs.length=n/\n<=c/\c<=9223372036854775807/\(A=none->c=0)/\
  (0<n-> ∃b off,A=some ⟨b,off,none⟩/\S b/\ ∀i,(hi:i<xs.length)->At w S b (off+i*Rep.size α) xs[i])
section
variable {α:Type}[Rep α]{w w':World}{S T:Nat->Prop}{A:Option Addr}{n c:Nat}{xs:List α}
theorem Sl.keep (hs:Same S w w')(h:Sl w S A n c xs):Sl w' S A n c xs:=by
 refine ⟨h.1,h.2.1,h.2.2.1,h.2.2.2.1,λhn=>?_⟩;obtain ⟨b,off,e,hb,hi⟩:=h.2.2.2.2 hn;exact ⟨b,off,e,hb,λi h'=>(hi i h').keep hb hs⟩
theorem Sl.mono (hs: ∀k,S k->T k)(h:Sl w S A n c xs):Sl w T A n c xs:=by
 refine ⟨h.1,h.2.1,h.2.2.1,h.2.2.2.1,λhn=>?_⟩;obtain ⟨b,off,e,hb,hi⟩:=h.2.2.2.2 hn;exact ⟨b,off,e,hs _ hb,λi h'=>(hi i h').mono hs⟩
theorem Sl.len (h:Sl w S A n c xs):xs.length=n:=h.1
theorem Sl.nil_:Sl (α:=α) w S none 0 0 []:=⟨rfl,Nat.le_refl _,by omega,λ_=>rfl,λh=>absurd h (by omega)⟩
theorem Sl.empty (h:c<=9223372036854775807)(hA:A=none->c=0):Sl (α:=α) w S A 0 c []:=⟨rfl,by omega,h,hA,λh=>absurd h (by omega)⟩
end
instance {α:Type} [Rep α]:Rep (List α) where
 size:=1
 rd w S cs xs:= ∃A n c,cs=[.slice A n c]/\Sl w S A n c xs
 len h:=by obtain ⟨A,n,c,rfl,_⟩:=h;rfl
 keep hs h:=by obtain ⟨A,n,c,rfl,h⟩:=h;exact ⟨A,n,c,rfl,h.keep hs⟩
 mono hs h:=by obtain ⟨A,n,c,rfl,h⟩:=h;exact ⟨A,n,c,rfl,h.mono hs⟩
def jh (P:Program)(t:TypeId)(α:Type)[Rep α]:Prop:=
 ∀(H:Type) (enc:TypeId×Value->H) (w:World) (spare:Nat->Bool) (held:Bool) (fuel:Nat) (cs:List Value) (y:DataW H×List MemPlace),
  DataW.trod enc P w 0 spare held fuel t cs=some y-> ∃a:α,Rep.rd w (· < w.heap.size) cs a
section
variable {P:Program}{t e:TypeId}
theorem wf_i64 {n:Int}(h:(Lit.int .i64 n).wf=true):dB n:=by
 simp[Lit.wf,IntKind.min,IntKind.max,IntKind.signed,IntKind.bits]at h;unfold dB;omega
theorem tC (h:P.underlying t=some (.int .i64)):jh P t Int:=λ_ _ _ _ _ _ _ _ hy=>by
 obtain ⟨n,hc,_,hw⟩:=DataW.trod_int h hy;exact ⟨n,hc,wf_i64 hw⟩
theorem nC (h:P.underlying t=some .string):jh P t ByteArray:=λ_ _ _ _ _ _ _ _ hy=>by
 obtain ⟨s,hc,_,hw⟩:=DataW.trod_string h hy;exact ⟨s,hc,by unfold maxLen at hw;omega⟩
theorem lt_of_cell {w:World}{a:Addr}{v:Value}(h:w.cell? a=some v):a.block<w.heap.size:=block_lt_of_cell h
theorem oN {α:Type}[Rep α][Inhabited α](h:P.underlying t=some (.slice e))(hsz:P.cellsOf e=Rep.size α)(hpos:0<Rep.size α)(he:jh P e α):jh P t (List α):=λH enc w spare held fuel cs y hy=>by
 rcases Go.Deep.open_slice h hy with ⟨hc,_⟩|⟨a,len,cap,m,n,D,Pl,hcs,hb,hl,hm,hmm,hx,hi⟩
 ·exact ⟨[],none,0,0,hc,Sl.nil_⟩
 ·have hmax:cap<=9223372036854775807:=by unfold maxLen at hm;omega
  have hm':len<=m:=by rw[hmm];split <;> omega
  have H1: ∀i,i<len-> ∃x:α,∃cs',w.cells? 0 (a.add (i*P.cellsOf e)) (P.cellsOf e)=some cs'/\Rep.rd w (· < w.heap.size) cs' x:=λi hil=>by
   obtain ⟨cs',hc',ht⟩:=hi i (by omega);obtain ⟨x,hx⟩:=he H enc w spare held n cs' _ ht;exact ⟨x,cs',hc',hx⟩
  obtain ⟨f,hf⟩:=Go.Deep.choose_lt H1;refine ⟨(List.range len).map f,some a,len,cap,hcs,by simp,hl,hmax,(λh=>by cases h),λhn=>?_⟩;have hspot:a.spot=none:=by
   obtain ⟨cs',hc',hr⟩:=hf 0 hn;obtain ⟨_,hlen,hcell⟩:=World.cells?_some hc';have h0:=hcell 0 (by omega);rw[List.getElem?_eq_getElem (by omega)]at h0;have:=World.cell?_spot h0;simpa[Addr.add] using this
  obtain ⟨b,off,spot⟩:=a;obtain rfl:spot=none:=hspot;have hblk:b<w.heap.size:=by
   obtain ⟨cs',hc',hr⟩:=hf 0 hn;obtain ⟨_,hlen,hcell⟩:=World.cells?_some hc';have h0:=hcell 0 (by omega);rw[List.getElem?_eq_getElem (by omega)]at h0;have:=lt_of_cell h0;simpa[Addr.add] using this
  refine ⟨b,off,rfl,hblk,λi hi'=>?_⟩;have hil:i<len:=by simpa using hi'
  obtain ⟨cs',hc',hr⟩:=hf i hil;obtain ⟨_,hlen,hcell⟩:=World.cells?_some hc';refine ⟨cs',by simpa using hr,λj hj=>?_⟩;have:=hcell j (by omega);rw[List.getElem?_eq_getElem hj]at this;rw[<-this]
  congr 1
  unfold Addr.add;by_cases h1:i*P.cellsOf e=0 <;> by_cases h2:j=0 <;> simp_all[Nat.add_assoc]
end
structure Val where
 kind:Int
 num:Int
 str:ByteArray
structure Col where
 name:ByteArray
 kind:Int
 nullable:Bool
structure Ent where
 row:List Val
 count:Int
structure Rel where
 name:ByteArray
 columns:List Col
 keys:List (List ByteArray)
 rows:List Ent
structure Shift where
 at_:Int
 offset:Int
structure Zone where
 name:ByteArray
 offset:Int
 shifts:List Shift
structure Node where
 op:Int
 value:Val
 name:ByteArray
 arity:Int
instance:Inhabited Val:=⟨⟨0,0,ByteArray.empty⟩⟩
instance:Inhabited Col:=⟨⟨ByteArray.empty,0,false⟩⟩
instance:Inhabited Ent:=⟨⟨[],0⟩⟩
instance:Inhabited Shift:=⟨⟨0,0⟩⟩
instance:Inhabited Zone:=⟨⟨ByteArray.empty,0,[]⟩⟩
instance:Inhabited Node:=⟨⟨0,default,ByteArray.empty,0⟩⟩
def Str (s:ByteArray):Prop:=s.size<=9223372036854775807
def Val.ok (v:Val):Prop:=dB v.kind/\dB v.num/\Str v.str
def Col.ok (c:Col):Prop:=Str c.name/\dB c.kind
def Dy (op:Int):Prop:=op=1\/op=12\/op=13
def Node.ok (n:Node):Prop:=dB n.op/\n.value.ok/\Str n.name/\dB n.arity/\Dy n.op
def Val.cells (v:Val):List Value:=[.int .i64 v.kind,.int .i64 v.num,.string v.str]
def Col.cells (c:Col):List Value:=[.string c.name,.int .i64 c.kind,.bool c.nullable]
def Shift.cells (s:Shift):List Value:=[.int .i64 s.at_,.int .i64 s.offset]
def Node.cells (n:Node):List Value:=[.int .i64 n.op,.int .i64 n.value.kind,.int .i64 n.value.num,.string n.value.str,.string n.name,.int .i64 n.arity]
instance:Rep Val where
 size:=3
 rd _ _ cs v:=cs=v.cells/\v.ok
 len h:=by rw[h.1];rfl
 keep _ h:=h
 mono _ h:=h
instance:Rep Col where
 size:=3
 rd _ _ cs v:=cs=v.cells/\v.ok
 len h:=by rw[h.1];rfl
 keep _ h:=h
 mono _ h:=h
instance:Rep Shift where
 size:=2
 rd _ _ cs v:=cs=v.cells/\dB v.at_/\dB v.offset
 len h:=by rw[h.1];rfl
 keep _ h:=h
 mono _ h:=h
instance:Rep Node where
 size:=6
 rd _ _ cs v:=cs=v.cells/\v.ok
 len h:=by rw[h.1];rfl
 keep _ h:=h
 mono _ h:=h
instance:Rep Ent where
 size:=2
 rd w S cs x:= ∃A n c,cs=[.slice A n c,.int .i64 x.count]/\Sl w S A n c x.row/\dB x.count
 len h:=by obtain ⟨A,n,c,rfl,_⟩:=h;rfl
 keep hs h:=by obtain ⟨A,n,c,rfl,h,hc⟩:=h;exact ⟨A,n,c,rfl,h.keep hs,hc⟩
 mono hs h:=by obtain ⟨A,n,c,rfl,h,hc⟩:=h;exact ⟨A,n,c,rfl,h.mono hs,hc⟩
instance:Rep Zone where
 size:=3
 rd w S cs x:= ∃A n c,cs=[.string x.name,.int .i64 x.offset,.slice A n c]/\Sl w S A n c x.shifts/\Str x.name/\dB x.offset
 len h:=by obtain ⟨A,n,c,rfl,_⟩:=h;rfl
 keep hs h:=by obtain ⟨A,n,c,rfl,h,hc⟩:=h;exact ⟨A,n,c,rfl,h.keep hs,hc⟩
 mono hs h:=by obtain ⟨A,n,c,rfl,h,hc⟩:=h;exact ⟨A,n,c,rfl,h.mono hs,hc⟩
instance:Rep Rel where
 size:=4
 rd w S cs x:= ∃A n c A' n' c' bN n'' c'',cs=[.string x.name,.slice A n c,.slice A' n' c',.slice bN n'' c'']/\Sl w S A n c x.columns/\Sl w S A' n' c' x.keys/\Sl w S bN n'' c'' x.rows/\Str x.name
 len h:=by obtain ⟨_,_,_,_,_,_,_,_,_,rfl,_⟩:=h;rfl
 keep hs h:=by obtain ⟨A,n,c,A',n',c',bN,n'',c'',rfl,h1,h2,h3,h4⟩:=h;exact ⟨A,n,c,A',n',c',bN,n'',c'',rfl,h1.keep hs,h2.keep hs,h3.keep hs,h4⟩
 mono hs h:=by obtain ⟨A,n,c,A',n',c',bN,n'',c'',rfl,h1,h2,h3,h4⟩:=h;exact ⟨A,n,c,A',n',c',bN,n'',c'',rfl,h1.mono hs,h2.mono hs,h3.mono hs,h4⟩
section
variable {P:Program}{t:TypeId}
def gF (P:Program)(f:Field)(o:Nat)(β:Type)[Rep β]:Prop:=f.offset=o/\P.cellsOf f.type=Rep.size β/\jh P f.type β
theorem zK {α β γ:Type}[Rep α][Rep β][Rep γ]{f0 f1:Field}(h:P.underlying t=some (.struct #[f0,f1]))(hc:P.cellsOf t=Rep.size α+Rep.size β)(h0:gF P f0 0 α)(h1:gF P f1 (Rep.size α) β)(mk: ∀w S ca cb (a:α) (b:β),Rep.rd w S ca a->Rep.rd w S cb b-> ∃g:γ,Rep.rd w S (ca++cb) g):jh P t γ:=λH enc w spare held fuel cs y hy=>by
 obtain ⟨xs,n,_,_,hl,hlen,hf⟩:=DataW.trod_struct h hy
 match xs,hlen with
 | [y0,y1],_=>
  have e0:=hf 0 f0 rfl;have e1:=hf 1 f1 rfl;rw[h0.1,h0.2.1]at e0;rw[h1.1,h1.2.1]at e1;obtain ⟨a,ra⟩:=h0.2.2 H enc w spare held n _ y0 (by simpa using e0);obtain ⟨b,rb⟩:=h1.2.2 H enc w spare held n _ y1 (by simpa using e1);obtain ⟨g,rg⟩:=mk _ _ _ _ a b ra rb;refine ⟨g,?_⟩;have:cs=(cs.drop 0).take (Rep.size α)++(cs.drop (Rep.size α)).take (Rep.size β):=by
   rw[List.drop_zero,List.take_of_length_le (l:=cs.drop (Rep.size α)) (by rw[List.length_drop];omega),List.take_append_drop]
  rw[this];exact rg
theorem ww {α β δ γ:Type}[Rep α][Rep β][Rep δ][Rep γ]{f0 f1 f2:Field}(h:P.underlying t=some (.struct #[f0,f1,f2]))(hc:P.cellsOf t=Rep.size α+Rep.size β+Rep.size δ)(h0:gF P f0 0 α)(h1:gF P f1 (Rep.size α) β)(h2:gF P f2 (Rep.size α+Rep.size β) δ)(mk: ∀w S ca cb cd (a:α) (b:β) (d:δ),Rep.rd w S ca a->Rep.rd w S cb b->Rep.rd w S cd d-> ∃g:γ,Rep.rd w S (ca++cb++cd) g):jh P t γ:=λH enc w spare held fuel cs y hy=>by
 obtain ⟨xs,n,_,_,hl,hlen,hf⟩:=DataW.trod_struct h hy
 match xs,hlen with
 | [y0,y1,y2],_=>
  have e0:=hf 0 f0 rfl;have e1:=hf 1 f1 rfl;have e2:=hf 2 f2 rfl;rw[h0.1,h0.2.1]at e0;rw[h1.1,h1.2.1]at e1;rw[h2.1,h2.2.1]at e2;obtain ⟨a,ra⟩:=h0.2.2 H enc w spare held n _ y0 (by simpa using e0);obtain ⟨b,rb⟩:=h1.2.2 H enc w spare held n _ y1 (by simpa using e1);obtain ⟨d,rd⟩:=h2.2.2 H enc w spare held n _ y2 (by simpa using e2);obtain ⟨g,rg⟩:=mk _ _ _ _ _ a b d ra rb rd;refine ⟨g,?_⟩;have:cs=(cs.drop 0).take (Rep.size α)++(cs.drop (Rep.size α)).take (Rep.size β)++(cs.drop (Rep.size α+Rep.size β)).take (Rep.size δ):=by
   rw[List.drop_zero,<-List.take_add,List.take_of_length_le (l:=cs.drop (Rep.size α+Rep.size β)) (by rw[List.length_drop];omega),List.take_append_drop]
  rw[this];exact rg
variable {f0 f1 f2 f3:Field}
theorem zL (h:P.underlying t=some (.struct #[f0,f1,f2]))(hc:P.cellsOf t=3)(h0:gF P f0 0 Int)(h1:gF P f1 1 Int)(h2:gF P f2 2 ByteArray):jh P t Val:=
 ww h hc h0 h1 h2 λ_ _ _ _ _ a b d ra rb rd=>⟨⟨a,b,d⟩,by rw[ra.1,rb.1,rd.1];rfl,ra.2,rb.2,rd.2⟩
end
def gN (a b:Int):Int:=if a<b then -1 else if b<a then 1 else 0
def dO (a b:ByteArray):Int:=if Op.bytesLess a.toList b.toList=true then -1 else if a.toList=b.toList then 0 else 1
def bG (a b:Val):Int:=if gN a.kind b.kind≠0 then gN a.kind b.kind else if gN a.num b.num≠0 then gN a.num b.num else dO a.str b.str
def aj:List Val->List Val->Int
 | [],[]=>0
 | [],_ :: _=> -1
 | _ :: _,[]=>1
 |a :: l,b :: m=>if bG a b≠0 then bG a b else aj l m
def di (s:ByteArray):Bool:=s.toList.isEmpty
def valid (v:Val):Bool:=
 if v.kind=0 then (v.num==0)&&di v.str
 else if v.kind=1 then di v.str&&(v.num==0 || v.num==1)
 else if v.kind=2 then di v.str&&(decide (-1073741824<=v.num)&&decide (v.num<=1073741824))
 else if v.kind=3 then (v.num==0)&&decide (v.str.size<=64)
 else if v.kind=4 then di v.str&&(decide (0<=v.num)&&decide (v.num<=575999999))
 else false
def fD (s:ByteArray)(i:Nat):Nat:=(s.data.toList.getD i 0).toNat
def fF (c:Nat)(i:Nat):Bool:=(decide (97<=c)&&decide (c<=122)) || (decide (0<i)&&(decide (c=95) || (decide (48<=c)&&decide (c<=57))))
def dR (s:ByteArray):Nat->Nat->Bool
 | 0,_=>true
 |b+1,i=>fF (fD s i) i&&dR s b (i+1)
def bQ (s:ByteArray):Bool:=decide (s.size<=24)&&(dR s s.size 0&&decide (0<s.size))
def aC (name:ByteArray):Nat->List Col->Int
 | _,[]=> -1
 |k,c :: l=>if c.name.toList==name.toList then k else aC name (k+1) l
def index (cols:List Col)(name:ByteArray):Int:=aC name 0 cols
def iq (cols:List Col)(i:Nat)(c:Col):Int:=
 if bQ c.name=false then 4 else if c.kind<1\/4<c.kind then 7 else if index cols c.name<i then 6 else 0
def ag {α:Type}(f:Nat->α->Int):Nat->List α->Int
 | _,[]=>0
 |k,x :: l=>if f k x≠0 then f k x else ag f (k+1) l
def ax (cols:List Col):Int:=if cols.length<1\/12<cols.length then 2 else ag (iq cols) 0 cols
def bK (c:Col)(v:Val):Int:=
 if valid v=false then 8 else if (v.kind=0/\c.nullable=false)\/(v.kind≠0/\v.kind≠c.kind) then 7 else 0
def aD (cols:List Col)(row:List Val):Int:=
 if row.length≠cols.length then 8 else ag (λi v=>bK (cols.getD i default) v) 0 row
def aS (x:Ent):Int:=
 if 12<x.row.length\/x.count < -65536\/65536<x.count then 2 else ag (λ_ v=>if valid v then 0 else 8) 0 x.row
def dK (b:List Ent)(i:Nat)(x:Ent):Int:=
 if aS x≠0 then aS x else if x.count=0 then 8 else if 0<i/\0<=aj (b.getD (i-1) default).row x.row then 14 else 0
def aA (b:List Ent):Int:=if 4096<b.length then 2 else ag (dK b) 0 b
def bZ (b:List Ent):Bool:=aA b==0&&b.all λx=>decide (0<=x.count)
def j6 (n:Int):Bool:=decide (-840<=n)&&decide (n<=840)
def dD (l:List Shift)(i:Nat)(s:Shift):Int:=
 if s.at_<1\/575999999<s.at_\/j6 s.offset=false then 1 else if 0<i/\s.at_<=((l[i-1]?).map Shift.at_).getD 0 then 14 else 0
def aO (l:List Shift):Nat->List Shift->Int
 | _,[]=>0
 |k,x :: r=>if dD l k x≠0 then dD l k x else aO l (k+1) r
def aV (z:Zone):Int:=if 64<z.shifts.length then 2 else if j6 z.offset=false then 1 else aO z.shifts 0 z.shifts
def rA (l:List Zone):Int:=ag (λ_ z=>aV z) 0 l
def eG (name:ByteArray):Nat->List Zone->Int
 | _,[]=> -1
 |k,z :: l=>if z.name.toList==name.toList then k else eG name (k+1) l
def eu (zs:List Zone)(name:ByteArray):Int:=eG name 0 zs
def gB (zs:List Zone)(name:ByteArray):Zone:=if eu zs name<0 then default else zs.getD (eu zs name).toNat default
def kN (t o:Int):Int:=if t+o<0 then -1 else (t+o) / 1440
def lh (t:Int):List Shift->Int->Int->Int
 | [],best,o=>max best (kN t o)
 |s :: l,best,o=>if t<s.at_ then max best (kN t o) else lh t l (max best (kN (s.at_-1) o)) s.offset
def yD (z:Zone)(t:Int):Int:=lh t z.shifts 0 z.offset
def qg (z:Zone)(t:Int):Int:=if aV z≠0 then aV z else if t<0\/575999999<t then 1 else 0
def FT (z:Zone)(t:Int):Int×Int:=if qg z t≠0 then (0,qg z t) else (yD z t,0)
def iP:List UInt8->Nat
 | []=>0
 |c :: l=>if c=46 then 0 else iP l+1
def kH (s:ByteArray):Nat:=iP s.toList
def iF (s:ByteArray):Bool:=
 if kH s<s.size then bQ (s.extract 0 (kH s))&&bQ (s.extract (kH s+1) s.size) else bQ s
def gP (l:List ByteArray)(s:ByteArray):Bool:=l.any λx=>x.toList==s.toList
def words:List ByteArray:=[⟨#[97,110,100]⟩,⟨#[111,114]⟩,⟨#[110,111,116]⟩,⟨#[110,117,108,108]⟩,⟨#[116,114,117,101]⟩,⟨#[102,97,108,115,101]⟩,⟨#[98,121]⟩,⟨#[115,101,108,102]⟩]
def Bg:List ByteArray:=[⟨#[105,102]⟩,⟨#[99,111,97,108,101,115,99,101]⟩,⟨#[105,115,110,117,108,108]⟩,⟨#[108,101,110,103,116,104]⟩,⟨#[100,97,121]⟩]
def qD (s:ByteArray):Bool:=gP words s
def ng (s:ByteArray):Bool:=gP Bg s
def arity (op ar:Int):Int:=
 if op=0\/op=1 then 0 else if op=2\/op=3\/op=16\/op=19\/op=20 then 1 else if op=17 then 3 else if op=21 then ar else if 4<=op/\op<=18 then 2 else -1
def ic (v:Val):Bool:=v.kind==0&&v.num==0&&di v.str
def shaped (n:Node):Bool:=
 if n.op=0 then valid n.value&&di n.name&&n.arity==0
 else ic n.value&&
  (if n.op=21 then iF n.name&&!ng n.name&&!qD n.name&&(decide (0<=n.arity)&&decide (n.arity<=8))
   else n.arity==0&&(if n.op=1 then bQ n.name&&!qD n.name else if n.op=20 then iF n.name&&!qD n.name else di n.name&&decide (0<=arity n.op n.arity)))
def raise (l:List Int):Int:=l.foldl (λh x=>max h (1+x)) 1
def gp (n:Node)(len:Nat):Nat:=len-(arity n.op n.arity).toNat
def aH:List Int->List Node->Int
 |st,[]=>if st.length≠1 then 8 else 0
 |st,n :: l=>
  if shaped n=false\/(st.length:Int)<arity n.op n.arity then 8
  else if 64<raise (st.drop (gp n st.length)) then 2
  else aH (st.take (gp n st.length)++[raise (st.drop (gp n st.length))]) l
def bM (e:List Node):Int:=if 256<e.length then 2 else aH [] e
structure Kd where
 kind:Int
 null:Bool
instance:Inhabited Kd:=⟨⟨0,false⟩⟩
def fits (x:Kd)(k:Int):Bool:=x.kind==k || x.kind==0
def common (a b:Kd):Int×Bool:=if a.kind=0 then (b.kind,true) else (a.kind,fits b a.kind)
def jY (op:Int)(x:Kd):Kd×Bool:=
 if op=2 then (⟨1,x.null⟩,fits x 1) else if op=3 then (⟨2,x.null⟩,fits x 2) else if op=16 then (⟨1,false⟩,true) else if op=19 then (⟨2,x.null⟩,fits x 3) else (⟨2,x.null⟩,fits x 4)
def dC (op:Int)(x y:Kd):Kd×Bool:=
 if op=4 then (if x.kind=4 then (⟨4,true⟩,fits y 2) else (⟨2,true⟩,fits x 2&&fits y 2))
 else if op=5 then (if y.kind=4 then (⟨2,x.null || y.null⟩,fits x 4) else if x.kind=4 then (⟨4,true⟩,fits y 2) else (⟨2,true⟩,fits x 2&&fits y 2))
 else if op=6\/op=7\/op=8 then (⟨2,true⟩,fits x 2&&fits y 2)
 else if op=9 then (⟨3,true⟩,fits x 3&&fits y 3)
 else if op=14\/op=15 then (⟨1,x.null || y.null⟩,fits x 1&&fits y 1)
 else if op=18 then (⟨(common x y).1,x.null&&y.null⟩,(common x y).2)
 else (⟨1,x.null || y.null⟩,(common x y).2)
def aQ (n:Node):List Kd->Kd×Bool
 | []=>(⟨n.value.kind,n.value.kind==0⟩,true)
 | [x]=>jY n.op x
 | [x,y]=>dC n.op x y
 |x :: y :: z :: _=>(⟨(common y z).1,y.null || z.null⟩,(common y z).2&&fits x 1)
def bi (cols:List Col)(zs:List Zone)(n:Node)(xs:List Kd):Int×Kd:=
 if n.op=1 then (if index cols n.name<0 then (5,default) else (0,⟨(cols.getD (index cols n.name).toNat default).kind,(cols.getD (index cols n.name).toNat default).nullable⟩))
 else if n.op=21 then (5,default)
 else if n.op=20/\eu zs n.name<0 then (5,default)
 else if (aQ n xs).2=false then (7,default) else (0,(aQ n xs).1)
def aJ (cols:List Col)(zs:List Zone):List Kd->List Node->Int×Kd
 |st,[]=>(0,st.headD default)
 |st,n :: l=>
  if (bi cols zs n (st.drop (gp n st.length))).1≠0 then ((bi cols zs n (st.drop (gp n st.length))).1,default)
  else aJ cols zs (st.take (gp n st.length)++[(bi cols zs n (st.drop (gp n st.length))).2]) l
def aX (e:List Node)(cols:List Col)(zs:List Zone):Int:=
 if bM e≠0 then bM e else if ax cols≠0 then ax cols else rA zs
def bE (e:List Node)(cols:List Col)(zs:List Zone):Int×Kd:=
 if aX e cols zs≠0 then (aX e cols zs,default) else aJ cols zs [] e
def bz:Val:=⟨0,0,⟨#[]⟩⟩
def fB (b:Bool):Val:=⟨1,if b then 1 else 0,⟨#[]⟩⟩
def ni (n:Int)(ok:Bool):Val:=if ok then ⟨2,n,⟨#[]⟩⟩ else bz
def xP (n:Int):Val:=if n<0\/575999999<n then bz else ⟨4,n,⟨#[]⟩⟩
def truth (v:Val):Int:=if v.kind=1/\valid v=true then v.num else -1
def uF (a b:Val)(stop:Int):Val:=
 if truth a=stop\/truth b=stop then fB (stop==1) else if truth a<0\/truth b<0 then bz else fB (stop==0)
def aP (n:Int):Bool:=decide (-1073741824<=n)&&decide (n<=1073741824)
def Ba (a b:Int):Int×Bool:=if aP a&&aP b&&aP (a+b) then (a+b,true) else (0,false)
def qV (a b:Int):Int×Bool:=if aP a&&aP b&&aP (a-b) then (a-b,true) else (0,false)
def Cn (a b:Int):Int×Bool:=if aP a&&aP b&&aP (a*b) then (a*b,true) else (0,false)
def Br (a b:Int):Int×Bool:=if aP a&&aP b&&b != 0 then (a.fdiv b,true) else (0,false)
def Cm (a b:Int):Int×Bool:=if aP a&&aP b&&b != 0 then (a.fmod b,true) else (0,false)
def kC (op:Int)(x y:Val):Val:=
 if op=4 then (if x.kind=4 then xP (x.num+y.num) else ni (Ba x.num y.num).1 (Ba x.num y.num).2)
 else if op=5 then (if x.kind=4/\y.kind=2 then xP (x.num-y.num) else ni (qV x.num y.num).1 (qV x.num y.num).2)
 else if op=6 then ni (Cn x.num y.num).1 (Cn x.num y.num).2
 else if op=7 then ni (Br x.num y.num).1 (Br x.num y.num).2
 else ni (Cm x.num y.num).1 (Cm x.num y.num).2
def nP (op:Int)(x y:Val):Val:=
 if op=9 then (if 64<(x.str++y.str).size then bz else ⟨3,0,x.str++y.str⟩)
 else if op=10 then fB (bG x y==0)
 else if op=11 then fB (bG x y != 0)
 else if op=12 then fB (decide (bG x y<0))
 else if op=13 then fB (decide (bG x y<=0))
 else kC op x y
def Aa (zs:List Zone)(op:Int)(name:ByteArray)(x:Val):Val:=
 if op=16 then fB (x.kind==0) else if x.kind=0 then bz else if op=2 then fB (x.num==0) else if op=3 then ni (qV 0 x.num).1 (qV 0 x.num).2
 else if op=19 then ni x.str.size true else ni (FT (gB zs name) x.num).1 true
def pO (zs:List Zone)(n:Node):List Val->Val
 | []=>n.value
 | [x]=>Aa zs n.op n.name x
 | [x,y]=>if n.op=14 then uF x y 0 else if n.op=15 then uF x y 1 else if n.op=18 then (if x.kind=0 then y else x) else if x.kind=0\/y.kind=0 then bz else nP n.op x y
 |x :: y :: z :: _=>if truth x=1 then y else z
def eF (cols:List Col)(row:List Val)(zs:List Zone)(n:Node)(xs:List Val):Val:=
 if n.op=1 then row.getD (index cols n.name).toNat bz else pO zs n xs
def fJ (cols:List Col)(row:List Val)(zs:List Zone):List Val->List Node->Val
 |st,[]=>st.headD bz
 |st,n :: l=>fJ cols row zs (st.take (gp n st.length)++[eF cols row zs n (st.drop (gp n st.length))]) l
def iy (e:List Node)(cols:List Col)(row:List Val)(zs:List Zone):Int×Val:=
 if (bE e cols zs).1≠0 then ((bE e cols zs).1,bz) else if aD cols row≠0 then (aD cols row,bz) else (0,fJ cols row zs [] e)
def cK:Nat->List Ent->List Ent->List Ent
 | 0,_,_=>[]
 | _+1,[],[]=>[]
 |f+1,[],y :: ys=>y :: cK f [] ys
 |f+1,x :: xs,[]=>x :: cK f xs []
 |f+1,x :: xs,y :: ys=>
  if aj x.row y.row<0 then x :: cK f xs (y :: ys)
  else if 0<aj x.row y.row then y :: cK f (x :: xs) ys
  else ⟨x.row,x.count+y.count⟩ :: cK f xs ys
def xK (xs ys:List Ent):List Ent:=cK (xs.length+ys.length) xs ys
def Dp (C:Int)(l:List Ent):Prop:= ∀x∈l, -C<=x.count/\x.count<=C
def nG:Nat->List Ent->List Ent
 | 0,l=>l
 |f+1,l=>if l.length<2 then l else xK (nG f (l.take (l.length / 2))) (nG f (l.drop (l.length / 2)))
def kT (l:List Ent):List Ent:=nG l.length l
def dh (l:List Ent):List Ent:=l.filter λx=>!(x.count==0)
def dJ:Nat->List Ent->Bool
 | _,[]=>false
 |m,x :: l=>if x.count=0 then dJ m l else (decide (x.count < -65536) || decide (65536<x.count) || decide (m=4096)) || dJ (m+1) l
structure Total {α:Type} (c:α->α->Int):Prop where
 zero: ∀a b,c a b=0↔a=b
 anti: ∀a b,c a b<0↔0<c b a
 trans: ∀a b d,c a b<0->c b d<0->c a d<0
theorem Total.self {α:Type}{c:α->α->Int}(h:Total c)(a:α):c a a=0:=(h.zero a a).2 rfl
theorem Total.lt_of {α:Type}{c:α->α->Int}(h:Total c){a b:α}(h1:¬c a b<0)(h2:¬c a b=0):c b a<0:=(h.anti b a).2 (by omega)
theorem Ff {a b:Int}:gN a b<0↔a<b:=by rw[gN];(repeat' split) <;> omega
theorem pK {a b:Int}:gN a b=0↔a=b:=by rw[gN];(repeat' split) <;> omega
theorem nQ: ∀l:List UInt8,Op.bytesLess l l=false
 | []=>rfl
 |x :: l=>by simp[Op.bytesLess,nQ l]
theorem yA {x y:UInt8}{l m:List UInt8}:Op.bytesLess (x :: l) (y :: m)=true↔x.toNat<y.toNat\/(x=y/\Op.bytesLess l m=true):=by
 simp only[Op.bytesLess,Bool.or_eq_true,Bool.and_eq_true,decide_eq_true_eq,beq_iff_eq];exact Iff.rfl
theorem pX: ∀l m n:List UInt8,Op.bytesLess l m=true->Op.bytesLess m n=true->Op.bytesLess l n=true
 | _,_,[],_,h=>by simp[Op.bytesLess]at h
 | [],_,_ :: _,_,_=>rfl
 | _ :: _,[],_ :: _,h,_=>by simp[Op.bytesLess]at h
 |x :: l,y :: m,z :: n,h,h'=>by
  rw[yA]at h h'⊢;rcases h with h|⟨rfl,h⟩
  ·rcases h' with h'|⟨rfl,h'⟩
   ·exact .inl (by omega)
   ·exact .inl h
  ·rcases h' with h'|⟨rfl,h'⟩
   ·exact .inl h'
   ·exact .inr ⟨rfl,pX l m n h h'⟩
theorem Be: ∀(l m:List UInt8),Op.bytesLess l m=false->Op.bytesLess m l=false->l=m
 | [],[]=>λ_ _=>rfl
 | [],_ :: _=>λh _=>by simp[Op.bytesLess]at h
 | _ :: _,[]=>λ_ h=>by simp[Op.bytesLess]at h
 |x :: l,y :: m=>λh h'=>by
  have h1:¬Op.bytesLess (x :: l) (y :: m)=true:=by rw[h];simp
  have h2:¬Op.bytesLess (y :: m) (x :: l)=true:=by rw[h'];simp
  rw[yA]at h1 h2;have e:x=y:=UInt8.toNat_inj.1 (by omega);subst e;rw[Be l m (by cases q:Op.bytesLess l m;rfl;exact absurd (.inr ⟨rfl,q⟩) h1) (by cases q:Op.bytesLess m l;rfl;exact absurd (.inr ⟨rfl,q⟩) h2)]
theorem ba_eq {a b:ByteArray}(h:a.toList=b.toList):a=b:=by
 rw[ByteArray.toList_eq,ByteArray.toList_eq]at h;obtain ⟨⟨a⟩⟩:=a;obtain ⟨⟨b⟩⟩:=b;simp at h;rw[h]
theorem qf {a b:ByteArray}:dO a b<0↔Op.bytesLess a.toList b.toList=true:=by
 rw[dO]
 split
 ·simp_all
 ·split <;> simp_all
theorem lg {a b:ByteArray}:dO a b=0↔a=b:=by
 rw[dO]
 split
 ·rename_i h;constructor
  ·intro q;omega
  ·intro q;rw[q,nQ]at h;cases h
 ·split
  ·rename_i h;exact ⟨λ_=>ba_eq h,λ_=>rfl⟩
  ·rename_i h;exact ⟨λq=>absurd q (by omega),λq=>absurd (by rw[q]) h⟩
theorem lD:Total dO:=by
 refine ⟨λ_ _=>lg,λa b=>?_,λa b d h h'=>?_⟩
 ·constructor
  ·intro h;have h1:¬dO b a<0:=λq=>by
    have:=pX _ _ _ (qf.1 h) (qf.1 q);rw[nQ]at this;cases this
   have h2:¬dO b a=0:=λq=>by
    rw[lg]at q;subst q;rw[lg.2 rfl]at h;omega
   omega
  ·intro h;by_cases q:dO a b<0
   ·exact q
   ·have h1:Op.bytesLess a.toList b.toList=false:=by cases e:Op.bytesLess a.toList b.toList;rfl;exact absurd (qf.2 e) q
    have h2:Op.bytesLess b.toList a.toList=false:=by cases e:Op.bytesLess b.toList a.toList;rfl;have:=qf.2 e;omega
    have:=ba_eq (Be _ _ h1 h2);subst this;rw[lg.2 rfl]at h;omega
 ·exact qf.2 (pX _ _ _ (qf.1 h) (qf.1 h'))
theorem yC {a b:Val}:bG a b<0↔a.kind<b.kind\/(a.kind=b.kind/\(a.num<b.num\/(a.num=b.num/\dO a.str b.str<0))):=by
 rw[bG];have h1:=@pK a.kind b.kind;have h2:=@pK a.num b.num;have h3:=@Ff a.kind b.kind;have h4:=@Ff a.num b.num
 split
 ·rename_i h;constructor <;> intro q <;> omega
 ·split
  ·constructor <;> intro q <;> omega
  ·constructor
   ·intro q;exact .inr ⟨by omega,.inr ⟨by omega,q⟩⟩
   ·intro q;omega
theorem jQ {a b:Val}:bG a b=0↔a=b:=by
 obtain ⟨k,n,s⟩:=a;obtain ⟨k',n',s'⟩:=b;rw[bG];have h1:=@pK k k';have h2:=@pK n n';have h3:=@lg s s';simp only
 split
 ·rename_i h;exact ⟨λq=>absurd q h,λq=>by injection q with q;exact absurd (h1.2 q) h⟩
 ·split
  ·rename_i h;exact ⟨λq=>absurd q h,λq=>by injection q with q q1;exact absurd (h2.2 q1) h⟩
  ·rename_i g h;constructor
   ·intro q;rw[h1.1 (by omega),h2.1 (by omega),h3.1 q]
   ·intro q;injection q with _ _ q;exact h3.2 q
theorem ik:Total bG:=by
 refine ⟨λ_ _=>jQ,λa b=>?_,λa b d h h'=>?_⟩
 ·have g: ∀a b:Val,bG a b<0->0<bG b a:=λa b h=>by
   rw[yC]at h;have h1:¬bG b a<0:=by
    rw[yC];intro q;have:dO a.str b.str<0->dO b.str a.str<0->False:=λp p'=>by have:=(lD.anti _ _).1 p;omega
    rcases h with h|⟨h,h|⟨h2,h⟩⟩ <;> rcases q with q|⟨q,q|⟨q2,q⟩⟩ <;> first|omega|exact this h q
   have h2:¬bG b a=0:=by
    rw[jQ];rintro rfl;have:=(lD.zero b.str b.str).2 rfl;rcases h with h|⟨_,h|⟨_,h⟩⟩ <;> omega
   omega
  constructor
  ·exact g a b
  ·intro h;by_cases q:bG a b<0
   ·exact q
   ·have h2:¬bG a b=0:=by
     rw[jQ];rintro rfl;rw[jQ.2 rfl]at h;omega
    exfalso;have h3:¬bG b a<0:=by omega
    rw[yC]at q h3;rcases Int.lt_trichotomy a.kind b.kind with e|e|e
    ·exact q (.inl e)
    ·rcases Int.lt_trichotomy a.num b.num with e'|e'|e'
     ·exact q (.inr ⟨e,.inl e'⟩)
     ·by_cases c1:dO a.str b.str<0
      ·exact q (.inr ⟨e,.inr ⟨e',c1⟩⟩)
      ·by_cases c2:dO a.str b.str=0
       ·apply h2;rw[jQ];obtain ⟨k,n,s⟩:=a;obtain ⟨k',n',s'⟩:=b;rw[lg]at c2;simp only at e e' c2;rw[e,e',c2]
       ·exact h3 (.inr ⟨e.symm,.inr ⟨e'.symm,lD.lt_of c1 c2⟩⟩)
     ·exact h3 (.inr ⟨e.symm,.inl e'⟩)
    ·exact h3 (.inl e)
 ·rw[yC]at h h'⊢;have:=lD.trans a.str b.str d.str;rcases h with h|⟨h,h|⟨h2,h⟩⟩ <;> rcases h' with q|⟨q,q|⟨q2,q⟩⟩
  all_goals first|exact .inl (by omega)|exact .inr ⟨by omega,.inl (by omega)⟩|exact .inr ⟨by omega,.inr ⟨by omega,this h q⟩⟩
theorem aY: ∀{a b:List Val},aj a b=0↔a=b
 | [],[]=>by simp[aj]
 | [],_ :: _=>by simp[aj]
 | _ :: _,[]=>by simp[aj]
 |x :: l,y :: m=>by
  have ih:=@aY l m;have h:=@jQ x y;rw[aj]
  split
  ·rename_i g;exact ⟨λq=>absurd q g,λq=>by injection q with q;exact absurd (h.2 q) g⟩
  ·rename_i g;rw[ih,h.1 (by omega)];simp
theorem DY {x y:Val}{l m:List Val}:aj (x :: l) (y :: m)<0↔bG x y<0\/(x=y/\aj l m<0):=by
 have h:=@jQ x y;rw[aj]
 split
 ·rename_i g;exact ⟨λq=>.inl q,λq=>by rcases q with q|⟨q,_⟩;exact q;exact absurd (h.2 q) g⟩
 ·rename_i g;exact ⟨λq=>.inr ⟨h.1 (by omega),q⟩,λq=>by rcases q with q|⟨_,q⟩;omega;exact q⟩
theorem ul: ∀{a b:List Val},aj a b<0↔0<aj b a
 | [],[]=>by simp[aj]
 | [],_ :: _=>by simp[aj]
 | _ :: _,[]=>by simp[aj]
 |x :: l,y :: m=>by
  have ih:=@ul l m;have h:=ik.anti x y;have h0:=ik.zero x y;have h1:=ik.zero y x;rw[aj,aj];by_cases e:x=y
  ·subst e;rw[if_neg (by rw[ik.self];simp),if_neg (by rw[ik.self];simp)];exact ih
  ·rw[if_pos (λq=>e (h0.1 q)),if_pos (λq=>e (h1.1 q).symm)];exact h
theorem iw: ∀{a b d:List Val},aj a b<0->aj b d<0->aj a d<0
 | _,[],[],_,h=>by simp[aj]at h
 | _,_ :: _,[],_,h=>by simp[aj]at h
 | [],_,_ :: _,_,_=>by simp[aj]
 | _ :: _,[],_ :: _,h,_=>by simp[aj]at h
 |x :: l,y :: m,z :: n,h,h'=>by
  rw[DY]at h h'⊢;rcases h with h|⟨rfl,h⟩
  ·rcases h' with h'|⟨rfl,h'⟩
   ·exact .inl (ik.trans _ _ _ h h')
   ·exact .inl h
  ·rcases h' with h'|⟨rfl,h'⟩
   ·exact .inl h'
   ·exact .inr ⟨rfl,iw h h'⟩
theorem yg:Total aj:=⟨λ_ _=>aY,λ_ _=>ul,λ_ _ _=>iw⟩
def cnt:List Ent->List Val->Int
 | [],_=>0
 |x :: l,r=>(if aj x.row r=0 then x.count else 0)+cnt l r
def fw (l:List Ent):Prop:=l.Pairwise λx y=>aj x.row y.row<0
def Gz (l:List Ent):Prop:= ∀x∈l,x.count≠0
theorem pM (l m:List Ent)(r:List Val):cnt (l++m) r=cnt l r+cnt m r:=by
 induction l with
 |nil=>simp[cnt]
 |cons x l ih=>rw[List.cons_append,cnt,cnt,ih];omega
theorem dP {l:List Ent}{r:List Val}(h: ∀x∈l,aj x.row r≠0):cnt l r=0:=by
 induction l with
 |nil=>rfl
 |cons x l ih=>rw[cnt,if_neg (h x (by simp)),ih λy hy=>h y (by simp[hy])];rfl
theorem fw.tail {x:Ent}{l:List Ent}(h:fw (x :: l)):fw l:=(List.pairwise_cons.1 h).2
theorem fw.head {x:Ent}{l:List Ent}(h:fw (x :: l)): ∀y∈l,aj x.row y.row<0:=(List.pairwise_cons.1 h).1
theorem fw.filter {l:List Ent}(h:fw l)(p:Ent->Bool):fw (l.filter p):=List.Pairwise.filter p h
theorem fw.head_zero {x:Ent}{l:List Ent}(h:fw (x :: l)):cnt l x.row=0:=
 dP λy hy q=>by
  have h1:=h.head y hy;have h2:=aY.1 q;rw[h2,aY.2 rfl]at h1;omega
theorem fw.mem {l:List Ent}(h:fw l){x:Ent}(hx:x∈l):cnt l x.row=x.count:=by
 induction l with
 |nil=>cases hx
 |cons y l ih=>
  rw[cnt];rcases List.mem_cons.1 hx with rfl|hx
  ·rw[if_pos (aY.2 rfl),h.head_zero];omega
  ·have h1:=h.head x hx;rw[if_neg (by omega),ih h.tail hx];omega
theorem yx: ∀{l m:List Ent},fw l->fw m->Gz l->Gz m->(∀r,cnt l r=cnt m r)->l=m
 | [],[],_,_,_,_,_=>rfl
 | [],y :: m,_,hm,_,hz,h=>by
  have:=h y.row;rw[hm.mem (by simp),cnt]at this;exact absurd this.symm (hz y (by simp))
 |x :: l,[],hl,_,hz,_,h=>by
  have:=h x.row;rw[hl.mem (by simp),cnt]at this;exact absurd this (hz x (by simp))
 |x :: l,y :: m,hl,hm,hz,hz',h=>by
  have hx:=hl.mem (x:=x) (by simp);have hy:=hm.mem (x:=y) (by simp);have n1:¬aj x.row y.row<0:=λq=>by
   have:cnt (y :: m) x.row=0:=dP λz hz0 e=>by
    have e:=aY.1 e;rcases List.mem_cons.1 hz0 with rfl|hz0
    ·rw[e,aY.2 rfl]at q;omega
    ·have:=iw q (hm.head z hz0);rw[e,aY.2 rfl]at this;omega
   rw[<-h,hx]at this;exact hz x (by simp) this
  have n2:¬aj y.row x.row<0:=λq=>by
   have:cnt (x :: l) y.row=0:=dP λz hz0 e=>by
    have e:=aY.1 e;rcases List.mem_cons.1 hz0 with rfl|hz0
    ·rw[e,aY.2 rfl]at q;omega
    ·have:=iw q (hl.head z hz0);rw[e,aY.2 rfl]at this;omega
   rw[h,hy]at this;exact hz' y (by simp) this
  have e:x.row=y.row:=by
   by_cases q:aj x.row y.row=0
   ·exact aY.1 q
   ·exact absurd (yg.lt_of n1 q) n2
  have e2:x.count=y.count:=by rw[<-hx,<-hy,h,e]
  have e3:x=y:=by
   obtain ⟨a,b⟩:=x;obtain ⟨c,d⟩:=y;simp only at e e2;rw[e,e2]
  subst e3;rw[yx hl.tail hm.tail (λz q=>hz z (by simp[q])) (λz q=>hz' z (by simp[q])) λr=>by
   have:=h r;rw[cnt,cnt]at this;omega]
theorem bI {P:List Val->Prop}: ∀f xs ys,(∀x∈xs,P x.row)->(∀x∈ys,P x.row)-> ∀x∈cK f xs ys,P x.row
 | 0,_,_=>λ_ _ x hx=>by simp[cK]at hx
 |f+1,[],[]=>λ_ _ x hx=>by simp[cK]at hx
 |f+1,[],y :: ys=>λh h' x hx=>by
  rw[cK]at hx;rcases List.mem_cons.1 hx with rfl|hx
  ·exact h' _ (by simp)
  ·exact bI f [] ys h (λz hz=>h' z (by simp[hz])) x hx
 |f+1,x :: xs,[]=>λh h' z hx=>by
  rw[cK]at hx;rcases List.mem_cons.1 hx with rfl|hx
  ·exact h _ (by simp)
  ·exact bI f xs [] (λz hz=>h z (by simp[hz])) h' z hx
 |f+1,x :: xs,y :: ys=>λh h' z hx=>by
  rw[cK]at hx
  split at hx
  ·rcases List.mem_cons.1 hx with rfl|hx
   ·exact h _ (by simp)
   ·exact bI f xs (y :: ys) (λz hz=>h z (by simp[hz])) h' z hx
  ·split at hx
   ·rcases List.mem_cons.1 hx with rfl|hx
    ·exact h' _ (by simp)
    ·exact bI f (x :: xs) ys h (λz hz=>h' z (by simp[hz])) z hx
   ·rcases List.mem_cons.1 hx with rfl|hx
    ·exact h x (by simp)
    ·exact bI f xs ys (λz hz=>h z (by simp[hz])) (λz hz=>h' z (by simp[hz])) z hx
theorem fV: ∀f xs ys,xs.length+ys.length<=f-> ∀r,cnt (cK f xs ys) r=cnt xs r+cnt ys r
 | 0,xs,ys=>λh r=>by
  have h1:xs=[]:=List.length_eq_zero_iff.1 (by omega);have h2:ys=[]:=List.length_eq_zero_iff.1 (by omega);subst h1 h2;rfl
 |f+1,[],[]=>λh r=>rfl
 |f+1,[],y :: ys=>λh r=>by
  simp only[cK,cnt,fV f [] ys (by simp at h⊢;omega) r];omega
 |f+1,x :: xs,[]=>λh r=>by
  simp only[cK,cnt,fV f xs [] (by simp at h⊢;omega) r];omega
 |f+1,x :: xs,y :: ys=>λh r=>by
  simp only[List.length_cons]at h;rw[cK]
  split
  ·rw[cnt,fV f xs (y :: ys) (by simp;omega),cnt,cnt];omega
  ·split
   ·rw[cnt,fV f (x :: xs) ys (by simp;omega),cnt,cnt];omega
   ·have e:x.row=y.row:=aY.1 (by omega);rw[cnt,fV f xs ys (by omega),cnt,cnt,e];simp only
    split <;> omega
theorem fU: ∀f xs ys,fw xs->fw ys->fw (cK f xs ys)
 | 0,_,_=>λ_ _=>List.Pairwise.nil
 |f+1,[],[]=>λ_ _=>List.Pairwise.nil
 |f+1,[],y :: ys=>λh h'=>by
  rw[cK];exact List.pairwise_cons.2 ⟨bI (P:=λr=>aj y.row r<0) f [] ys (λz hz=>by cases hz) h'.head,fU f [] ys h h'.tail⟩
 |f+1,x :: xs,[]=>λh h'=>by
  rw[cK];exact List.pairwise_cons.2 ⟨bI (P:=λr=>aj x.row r<0) f xs [] h.head (λz hz=>by cases hz),fU f xs [] h.tail h'⟩
 |f+1,x :: xs,y :: ys=>λh h'=>by
  rw[cK]
  split
  ·rename_i q;exact List.pairwise_cons.2 ⟨bI (P:=λr=>aj x.row r<0) f xs (y :: ys) h.head (λz hz=>by
    rcases List.mem_cons.1 hz with rfl|hz
    ·exact q
    ·exact iw q (h'.head z hz)),fU f xs (y :: ys) h.tail h'⟩
  ·split
   ·rename_i _ q;have q:=ul.2 q;exact List.pairwise_cons.2 ⟨bI (P:=λr=>aj y.row r<0) f (x :: xs) ys (λz hz=>by
     rcases List.mem_cons.1 hz with rfl|hz
     ·exact q
     ·exact iw q (h.head z hz)) h'.head,fU f (x :: xs) ys h h'.tail⟩
   ·have e:x.row=y.row:=aY.1 (by omega);exact List.pairwise_cons.2 ⟨bI (P:=λr=>aj x.row r<0) f xs ys h.head (λz hz=>by rw[e];exact h'.head z hz),fU f xs ys h.tail h'.tail⟩
theorem xM (xs ys:List Ent)(r:List Val):cnt (xK xs ys) r=cnt xs r+cnt ys r:=fV _ _ _ (Nat.le_refl _) r
theorem xL {xs ys:List Ent}(h:fw xs)(h':fw ys):fw (xK xs ys):=fU _ _ _ h h'
theorem ow: ∀f (l:List Ent) (r:List Val),cnt (nG f l) r=cnt l r
 | 0,l,r=>rfl
 |f+1,l,r=>by
  rw[nG]
  split
  ·rfl
  ·rw[xM,ow f,ow f,<-pM,List.take_append_drop]
theorem oo: ∀f (l:List Ent),l.length<=f->fw (nG f l)
 | 0,l,h=>by
  have h1:l=[]:=List.length_eq_zero_iff.1 (by omega);subst h1;exact List.Pairwise.nil
 |f+1,l,h=>by
  rw[nG]
  split
  ·rename_i q
   match l,q with
   | [],_=>exact List.Pairwise.nil
   | [x],_=>exact List.pairwise_singleton _ _
   | _ :: _ :: _,q=>exact absurd q (by simp)
  ·exact xL (oo f _ (by rw[List.length_take];omega)) (oo f _ (by rw[List.length_drop];omega))
theorem jA (l:List Ent)(r:List Val):cnt (kT l) r=cnt l r:=ow _ _ _
theorem lC (l:List Ent):fw (kT l):=oo _ _ (Nat.le_refl _)
theorem jr (l:List Ent)(r:List Val):cnt (dh l) r=cnt l r:=by
 induction l with
 |nil=>rfl
 |cons x l ih=>
  rw[dh]at ih⊢;by_cases q:x.count=0
  ·rw[List.filter_cons_of_neg (by simp[q]),ih,cnt,q];simp
  ·rw[List.filter_cons_of_pos (by simp[q]),cnt,ih,cnt]
theorem lq {l:List Ent}(h:fw l):fw (dh l):=h.filter _
theorem ig (l:List Ent):Gz (dh l):=λx hx=>by
 have:=(List.mem_filter.1 hx).2;simpa using this
theorem zF {l:List Ent}: ∀x∈dh l,x∈l:=λx hx=>(List.mem_filter.1 hx).1
theorem kS: ∀(l:List Ent) (m:Nat),dJ m (dh l)=dJ m l
 | [],m=>rfl
 |x :: l,m=>by
  have ih:=kS l;by_cases q:x.count=0
  ·rw[show dh (x :: l)=dh l from List.filter_cons_of_neg (by simp[q]),ih,dJ,if_pos q]
  ·rw[show dh (x :: l)=x :: dh l from List.filter_cons_of_pos (by simp[q]),dJ,dJ,if_neg q,if_neg q,ih]
def jM (xs:List Ent):Int×List Ent:=if dJ 0 (kT xs)=true then (2,[]) else (0,dh (kT xs))
theorem mD: ∀(l:List Ent) (m:Nat),Gz l->m<=4096->(dJ m l=false↔(∀x∈l, -65536<=x.count/\x.count<=65536)/\m+l.length<=4096)
 | [],m,_,hm=>by simp[dJ];omega
 |x :: l,m,h,hm=>by
  have hx:x.count≠0:=h x (by simp);rw[dJ,if_neg hx];by_cases q:m=4096
  ·subst q;simp
  ·have ih:=mD l (m+1) (λy hy=>h y (by simp[hy])) (by omega);simp only[Bool.or_eq_false_iff,decide_eq_false_iff_not,ih,List.mem_cons,List.length_cons,forall_eq_or_imp];constructor
   ·rintro ⟨⟨⟨a,b⟩,_⟩,c,d⟩;exact ⟨⟨⟨by omega,by omega⟩,c⟩,by omega⟩
   ·rintro ⟨⟨⟨a,b⟩,c⟩,d⟩;exact ⟨⟨⟨by omega,by omega⟩,q⟩,c,by omega⟩
theorem mU {α:Type}{f:Nat->α->Int}: ∀{l:List α} {k:Nat},ag f k l=0↔ ∀j x,l[j]?=some x->f (k+j) x=0
 | [],k=>by simp[ag]
 |y :: l,k=>by
  have ih:=@mU α f l (k+1);rw[ag];by_cases hy:f k y=0
  ·rw[if_neg (by simpa using hy),ih];constructor
   ·intro h j x hx;cases j with
    |zero=>simp at hx;subst hx;exact hy
    |succ j=>have:=h j x (by simpa using hx);rw[show k+(j+1)=k+1+j by omega];exact this
   ·intro h j x hx;have:=h (j+1) x (by simpa using hx);rw[show k+(j+1)=k+1+j by omega]at this;exact this
  ·rw[if_pos hy];constructor
   ·intro h;exact absurd h hy
   ·intro h;exact absurd (h 0 y (by simp)) hy
theorem jL {b:List Ent}{i:Nat}{x:Ent}:dK b i x=0↔aS x=0/\x.count≠0/\(0<i->aj (b.getD (i-1) default).row x.row<0):=by
 rw[dK];by_cases h1:aS x=0
 ·rw[if_neg (by simpa using h1)];by_cases h2:x.count=0
  ·simp[h1,h2]
  ·rw[if_neg h2];by_cases h3:0<i/\0<=aj (b.getD (i-1) default).row x.row
   ·rw[if_pos h3];constructor
    ·intro q;omega
    ·rintro ⟨_,_,q⟩;have:=q h3.1;omega
   ·rw[if_neg h3];simp only[true_iff];exact ⟨h1,h2,λq=>by
     by_cases g:aj (b.getD (i-1) default).row x.row<0
     ·exact g
     ·exact absurd ⟨q,by omega⟩ h3⟩
 ·rw[if_pos h1];simp[h1]
theorem mK: ∀{l:List Ent},(∀j x y,l[j]?=some x->l[j+1]?=some y->aj x.row y.row<0)->fw l
 | [],_=>List.Pairwise.nil
 | [x],_=>List.pairwise_singleton _ _
 |x :: y :: l,h=>by
  have h1:=h 0 x y rfl rfl;have ih:fw (y :: l):=mK λj a b ha hb=>h (j+1) a b (by simpa using ha) (by simpa using hb);refine List.pairwise_cons.2 ⟨λz hz=>?_,ih⟩;rcases List.mem_cons.1 hz with rfl|hz
  ·exact h1
  ·exact iw h1 (ih.head z hz)
theorem dM {b:List Ent}:aA b=0↔b.length<=4096/\(∀x∈b,aS x=0/\x.count≠0)/\fw b:=by
 rw[aA];by_cases hl:4096<b.length
 ·rw[if_pos hl];constructor
  ·intro q;omega
  ·rintro ⟨q,_⟩;omega
 ·rw[if_neg hl,mU];have hl':b.length<=4096:=by omega
  constructor
  ·intro h;refine ⟨hl',λx hx=>?_,mK λj x y hx hy=>?_⟩
   ·obtain ⟨j,hj⟩:=List.mem_iff_getElem?.1 hx;have:=jL.1 (h j x hj);exact ⟨this.1,this.2.1⟩
   ·have:=(jL.1 (h (j+1) y hy)).2.2 (by omega);rw[show (0+(j+1)-1)=j by omega,List.getD_eq_getElem?_getD,hx]at this;exact this
  ·rintro ⟨_,h1,h2⟩ j x hx;have hm:=List.mem_iff_getElem?.2 ⟨j,hx⟩;refine jL.2 ⟨(h1 x hm).1,(h1 x hm).2,λhj=>?_⟩;obtain ⟨hlt,he⟩:=List.getElem?_eq_some_iff.1 hx;have:=List.pairwise_iff_getElem.1 h2 (0+j-1) j (by omega) hlt (by omega);rw[he]at this;rw[List.getD_eq_getElem?_getD,List.getElem?_eq_getElem (by omega)];exact this
theorem Ea {x:Ent}(h:aS x=0): -65536<=x.count/\x.count<=65536/\x.row.length<=12:=by
 rw[aS]at h
 split at h
 ·omega
 ·omega
theorem kU {P:List Val->Prop}: ∀f (l:List Ent),(∀x∈l,P x.row)-> ∀x∈nG f l,P x.row
 | 0,l,h=>h
 |f+1,l,h=>by
  rw[nG]
  split
  ·exact h
  ·exact bI _ _ _ (kU f _ λx hx=>h x (List.mem_of_mem_take hx)) (kU f _ λx hx=>h x (List.mem_of_mem_drop hx))
theorem sI {P:List Val->Prop}{xs:List Ent}(h: ∀x∈xs,P x.row): ∀x∈(jM xs).2,P x.row:=by
 rw[jM]
 split
 ·intro x hx;cases hx
 ·intro x hx;exact kU _ xs h x (zF x hx)
theorem Bd (xs:List Ent):(jM xs).1=0\/((jM xs).1=2/\(jM xs).2=[]):=by
 rw[jM];split <;> simp
theorem Bc {xs:List Ent}(h:(jM xs).1=0)(r:List Val):cnt (jM xs).2 r=cnt xs r:=by
 rw[jM]at h⊢
 split
 ·rename_i q;rw[if_pos q]at h;cases h
 ·rw[jr,jA]
theorem mf {x:Ent}:aS x=0↔(-65536<=x.count/\x.count<=65536)/\x.row.length<=12/\ ∀v∈x.row,valid v=true:=by
 rw[aS]
 split
 ·rename_i h;constructor
  ·intro q;omega
  ·rintro ⟨q,q1,_⟩;omega
 ·rename_i h;rw[mU];constructor
  ·intro q;refine ⟨by omega,by omega,λv hv=>?_⟩;obtain ⟨j,hj⟩:=List.mem_iff_getElem?.1 hv;have:=q j v hj
   split at this
   ·assumption
   ·omega
  ·rintro ⟨_,_,q⟩ j v hj;rw[if_pos (q v (List.mem_iff_getElem?.2 ⟨j,hj⟩))]
theorem yz {xs:List Ent}(h: ∀x∈xs,aS x=0):aA (jM xs).2=0:=by
 have hr:=sI (P:=λr=>r.length<=12/\ ∀v∈r,valid v=true) (xs:=xs) λx hx=>(mf.1 (h x hx)).2;rw[jM]at hr⊢
 split
 ·rfl
 ·rename_i q;rw[if_neg q]at hr;have q:dJ 0 (dh (kT xs))=false:=by rw[kS];simpa using q
  obtain ⟨h1,h2⟩:=(mD _ 0 (ig _) (by omega)).1 q;exact dM.2 ⟨by simpa using h2,λx hx=>⟨mf.2 ⟨h1 x hx,hr x hx⟩,ig _ x hx⟩,lq (lC _)⟩
end Go.Proofs.YtopjjlmfilgngaaGreatDoor
