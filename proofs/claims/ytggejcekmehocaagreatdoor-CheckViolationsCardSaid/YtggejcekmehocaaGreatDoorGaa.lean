/-
  How data lies in memory: a class 'Rep' (what cells of a world a datum reads as), with its instances for ints, bools, strings, slices and the structs of package api; its frame; and the road from the claim's own reading ('DataW.trod') to it. No program is in sight. Plain functions, no program in sight: the values, columns, rows, bags and relations of chapters 1, 5, 6 and 19, as both texts compute them. Plain functions, no program in sight: expressions (chapter 8), their types and values (chapter 9), zones and days (chapter 4), checked arithmetic (chapter 2), as both texts compute them. Plain law: the program's day of an instant is the reference's. No program is in sight. Plain functions, no program in sight: merging, sorting and normalizing lists of entries (chapter 6), as the reference does it. Plain law: the orders of strings, values and rows are total orders. No program is in sight. Plain law of bags: a bag is told by its counts; merging and sorting add counts; Normalize's answer depends on the counts alone. No program is in sight. Plain: the count that the first equal row has.
-/
import Derived.WalkKit
import Derived.Deep.Slices
import Derived.ChangeSame
namespace Go.Proofs.YtggejcekmehocaaGreatDoor
set_option linter.unusedVariables false
set_option linter.unusedSimpArgs false
open Go.RowKit Go.ChangeShapes Go.WideShapes
def Same (S:Nat->Prop)(w w':World):Prop:= ∀k,S k->w'.heap[k]?=w.heap[k]?
theorem Same.refl (S:Nat->Prop)(w:World):Same S w w:=λ_ _=>rfl
theorem Same.trans {S:Nat->Prop}{a b c:World}(h:Same S a b)(h':Same S b c):Same S a c:=λk hk=>(h' k hk).trans (h k hk)
theorem Same.sub {S T:Nat->Prop}{a b:World}(h:Same T a b)(hs: ∀k,S k->T k):Same S a b:=λk hk=>h k (hs k hk)
theorem Same.below {B:Nat}{w w':World}(h:Below B w w'):Same (· < B) w w':=λk hk=>h.block k hk
theorem Same.cell {S:Nat->Prop}{w w':World}(h:Same S w w'){a:Addr}(ha:S a.block):w'.cell? a=w.cell? a:=World.cell?_of_block (w:=w) (h _ ha)
class Rep (α:Type) where
 size:Nat
 rd:World->(Nat->Prop)->List Value->α->Prop
 len: ∀{w:World} {S:Nat->Prop} {cs:List Value} {a:α},rd w S cs a->cs.length=size
 keep: ∀{w w':World} {S:Nat->Prop} {cs:List Value} {a:α},Same S w w'->rd w S cs a->rd w' S cs a
 mono: ∀{w:World} {S T:Nat->Prop} {cs:List Value} {a:α},(∀k,S k->T k)->rd w S cs a->rd w T cs a
def ig (n:Int):Prop:= -9223372036854775808<=n/\n<=9223372036854775807
instance:Rep Int where
 size:=1
 rd _ _ cs n:=cs=[.int .i64 n]/\ig n
 len h:=by rw[h.1];rfl
 keep _ h:=h
 mono _ h:=h
instance:Rep Bool where
 size:=1
 rd _ _ cs b:=cs=[.bool b]
 len h:=by rw[h];rfl
 keep _ h:=h
 mono _ h:=h
instance:Rep ByteArray where
 size:=1
 rd _ _ cs s:=cs=[.string s]/\s.size<=9223372036854775807
 len h:=by rw[h.1];rfl
 keep _ h:=h
 mono _ h:=h
def At {α:Type}[Rep α](w:World)(S:Nat->Prop)(b off:Nat)(a:α):Prop:=
 ∃cs:List Value,Rep.rd w S cs a/\ ∀j,(hj:j<cs.length)->w.cell? ⟨b,off+j,none⟩=some cs[j]
theorem At.keep {α:Type}[Rep α]{w w':World}{S:Nat->Prop}{b off:Nat}{a:α}(hb:S b)(hs:Same S w w')(h:At w S b off a):At w' S b off a:=by
 obtain ⟨cs,h1,h2⟩:=h
 exact ⟨cs,Rep.keep hs h1,λj hj=>(hs.cell (a:=⟨b,off+j,none⟩) hb).trans (h2 j hj)⟩
theorem At.mono {α:Type}[Rep α]{w:World}{S T:Nat->Prop}{b off:Nat}{a:α}(hs: ∀k,S k->T k)(h:At w S b off a):At w T b off a:=by
 obtain ⟨cs,h1,h2⟩:=h
 exact ⟨cs,Rep.mono hs h1,h2⟩
def Sl {α:Type}[Rep α](w:World)(S:Nat->Prop)(A:Option Addr)(n c:Nat)(xs:List α):Prop:=
 xs.length=n/\n<=c/\c<=9223372036854775807/\(A=none->c=0)/\
  (0<n-> ∃b off,A=some ⟨b,off,none⟩/\S b/\ ∀i,(hi:i<xs.length)->At w S b (off+i*Rep.size α) xs[i])
section
variable {α:Type}[Rep α]{w w':World}{S T:Nat->Prop}{A:Option Addr}{n c:Nat}{xs:List α}
theorem Sl.keep (hs:Same S w w')(h:Sl w S A n c xs):Sl w' S A n c xs:=by
 refine ⟨h.1,h.2.1,h.2.2.1,h.2.2.2.1,λhn=>?_⟩
 obtain ⟨b,off,e,hb,hi⟩:=h.2.2.2.2 hn
 exact ⟨b,off,e,hb,λi h'=>(hi i h').keep hb hs⟩
theorem Sl.mono (hs: ∀k,S k->T k)(h:Sl w S A n c xs):Sl w T A n c xs:=by
 refine ⟨h.1,h.2.1,h.2.2.1,h.2.2.2.1,λhn=>?_⟩
 obtain ⟨b,off,e,hb,hi⟩:=h.2.2.2.2 hn
 exact ⟨b,off,e,hs _ hb,λi h'=>(hi i h').mono hs⟩
theorem Sl.len (h:Sl w S A n c xs):xs.length=n:=h.1
theorem Sl.nil_:Sl (α:=α) w S none 0 0 []:=⟨rfl,Nat.le_refl _,by omega,λ_=>rfl,λh=>absurd h (by omega)⟩
theorem Sl.empty (h:c<=9223372036854775807)(hA:A=none->c=0):Sl (α:=α) w S A 0 c []:=⟨rfl,by omega,h,hA,λh=>absurd h (by omega)⟩
end
instance {α:Type} [Rep α]:Rep (List α) where
 size:=1
 rd w S cs xs:= ∃A n c,cs=[.slice A n c]/\Sl w S A n c xs
 len h:=by obtain ⟨A,n,c,rfl,_⟩:=h;rfl
 keep hs h:=by obtain ⟨A,n,c,rfl,h⟩:=h;exact ⟨A,n,c,rfl,h.keep hs⟩
 mono hs h:=by obtain ⟨A,n,c,rfl,h⟩:=h;exact ⟨A,n,c,rfl,h.mono hs⟩
def gJ (P:Program)(t:TypeId)(α:Type)[Rep α]:Prop:=
 ∀(H:Type) (enc:TypeId×Value->H) (w:World) (spare:Nat->Bool) (held:Bool) (fuel:Nat) (cs:List Value) (y:DataW H×List MemPlace),
  DataW.trod enc P w 0 spare held fuel t cs=some y-> ∃a:α,Rep.rd w (· < w.heap.size) cs a
section
variable {P:Program}{t e:TypeId}
theorem wf_i64 {n:Int}(h:(Lit.int .i64 n).wf=true):ig n:=by
 simp[Lit.wf,IntKind.min,IntKind.max,IntKind.signed,IntKind.bits]at h
 unfold ig
 omega
theorem eU (h:P.underlying t=some (.int .i64)):gJ P t Int:=λ_ _ _ _ _ _ _ _ hy=>by
 obtain ⟨n,hc,_,hw⟩:=DataW.trod_int h hy
 exact ⟨n,hc,wf_i64 hw⟩
theorem Gy (h:P.underlying t=some .bool):gJ P t Bool:=λ_ _ _ _ _ _ _ _ hy=>by
 obtain ⟨b,hc,_⟩:=DataW.trod_bool h hy
 exact ⟨b,hc⟩
theorem fQ (h:P.underlying t=some .string):gJ P t ByteArray:=λ_ _ _ _ _ _ _ _ hy=>by
 obtain ⟨s,hc,_,hw⟩:=DataW.trod_string h hy
 exact ⟨s,hc,by unfold maxLen at hw;omega⟩
theorem lt_of_cell {w:World}{a:Addr}{v:Value}(h:w.cell? a=some v):a.block<w.heap.size:=block_lt_of_cell h
theorem iJ {α:Type}[Rep α][Inhabited α](h:P.underlying t=some (.slice e))(hsz:P.cellsOf e=Rep.size α)(hpos:0<Rep.size α)(he:gJ P e α):gJ P t (List α):=λH enc w spare held fuel cs y hy=>by
 rcases Go.Deep.open_slice h hy with ⟨hc,_⟩|⟨a,len,cap,m,n,D,Pl,hcs,hb,hl,hm,hmm,hx,hi⟩
 ·exact ⟨[],none,0,0,hc,Sl.nil_⟩
 ·have hmax:cap<=9223372036854775807:=by unfold maxLen at hm;omega
  have hm':len<=m:=by rw[hmm];split <;> omega
  have H1: ∀i,i<len-> ∃x:α,∃cs',w.cells? 0 (a.add (i*P.cellsOf e)) (P.cellsOf e)=some cs'/\Rep.rd w (· < w.heap.size) cs' x:=λi hil=>by
   obtain ⟨cs',hc',ht⟩:=hi i (by omega)
   obtain ⟨x,hx⟩:=he H enc w spare held n cs' _ ht
   exact ⟨x,cs',hc',hx⟩
  obtain ⟨f,hf⟩:=Go.Deep.choose_lt H1
  refine ⟨(List.range len).map f,some a,len,cap,hcs,by simp,hl,hmax,(λh=>by cases h),λhn=>?_⟩
  have hspot:a.spot=none:=by
   obtain ⟨cs',hc',hr⟩:=hf 0 hn
   obtain ⟨_,hlen,hcell⟩:=World.cells?_some hc'
   have h0:=hcell 0 (by omega)
   rw[List.getElem?_eq_getElem (by omega)]at h0
   have:=World.cell?_spot h0
   simpa[Addr.add] using this
  obtain ⟨b,off,spot⟩:=a
  obtain rfl:spot=none:=hspot
  have hblk:b<w.heap.size:=by
   obtain ⟨cs',hc',hr⟩:=hf 0 hn
   obtain ⟨_,hlen,hcell⟩:=World.cells?_some hc'
   have h0:=hcell 0 (by omega)
   rw[List.getElem?_eq_getElem (by omega)]at h0
   have:=lt_of_cell h0
   simpa[Addr.add] using this
  refine ⟨b,off,rfl,hblk,λi hi'=>?_⟩
  have hil:i<len:=by simpa using hi'
  obtain ⟨cs',hc',hr⟩:=hf i hil
  obtain ⟨_,hlen,hcell⟩:=World.cells?_some hc'
  refine ⟨cs',by simpa using hr,λj hj=>?_⟩
  have:=hcell j (by omega)
  rw[List.getElem?_eq_getElem hj]at this
  rw[<-this]
  congr 1
  unfold Addr.add
  by_cases h1:i*P.cellsOf e=0 <;> by_cases h2:j=0 <;> simp_all[Nat.add_assoc]
end
structure Val where
 kind:Int
 num:Int
 str:ByteArray
structure Col where
 name:ByteArray
 kind:Int
 nullable:Bool
structure Ent where
 row:List Val
 count:Int
structure Rel where
 name:ByteArray
 columns:List Col
 keys:List (List ByteArray)
 rows:List Ent
structure Shift where
 at_:Int
 offset:Int
structure Zone where
 name:ByteArray
 offset:Int
 shifts:List Shift
structure Node where
 op:Int
 value:Val
 name:ByteArray
 arity:Int
instance:Inhabited Val:=⟨⟨0,0,ByteArray.empty⟩⟩
instance:Inhabited Col:=⟨⟨ByteArray.empty,0,false⟩⟩
instance:Inhabited Ent:=⟨⟨[],0⟩⟩
instance:Inhabited Shift:=⟨⟨0,0⟩⟩
instance:Inhabited Zone:=⟨⟨ByteArray.empty,0,[]⟩⟩
instance:Inhabited Node:=⟨⟨0,default,ByteArray.empty,0⟩⟩
def Str (s:ByteArray):Prop:=s.size<=9223372036854775807
def Val.ok (v:Val):Prop:=ig v.kind/\ig v.num/\Str v.str
def Col.ok (c:Col):Prop:=Str c.name/\ig c.kind
def Node.ok (n:Node):Prop:=ig n.op/\n.value.ok/\Str n.name/\ig n.arity
def Val.cells (v:Val):List Value:=[.int .i64 v.kind,.int .i64 v.num,.string v.str]
def Col.cells (c:Col):List Value:=[.string c.name,.int .i64 c.kind,.bool c.nullable]
def Shift.cells (s:Shift):List Value:=[.int .i64 s.at_,.int .i64 s.offset]
def Node.cells (n:Node):List Value:=[.int .i64 n.op,.int .i64 n.value.kind,.int .i64 n.value.num,.string n.value.str,.string n.name,.int .i64 n.arity]
instance:Rep Val where
 size:=3
 rd _ _ cs v:=cs=v.cells/\v.ok
 len h:=by rw[h.1];rfl
 keep _ h:=h
 mono _ h:=h
instance:Rep Col where
 size:=3
 rd _ _ cs v:=cs=v.cells/\v.ok
 len h:=by rw[h.1];rfl
 keep _ h:=h
 mono _ h:=h
instance:Rep Shift where
 size:=2
 rd _ _ cs v:=cs=v.cells/\ig v.at_/\ig v.offset
 len h:=by rw[h.1];rfl
 keep _ h:=h
 mono _ h:=h
instance:Rep Node where
 size:=6
 rd _ _ cs v:=cs=v.cells/\v.ok
 len h:=by rw[h.1];rfl
 keep _ h:=h
 mono _ h:=h
instance:Rep Ent where
 size:=2
 rd w S cs x:= ∃A n c,cs=[.slice A n c,.int .i64 x.count]/\Sl w S A n c x.row/\ig x.count
 len h:=by obtain ⟨A,n,c,rfl,_⟩:=h;rfl
 keep hs h:=by obtain ⟨A,n,c,rfl,h,hc⟩:=h;exact ⟨A,n,c,rfl,h.keep hs,hc⟩
 mono hs h:=by obtain ⟨A,n,c,rfl,h,hc⟩:=h;exact ⟨A,n,c,rfl,h.mono hs,hc⟩
instance:Rep Zone where
 size:=3
 rd w S cs x:= ∃A n c,cs=[.string x.name,.int .i64 x.offset,.slice A n c]/\Sl w S A n c x.shifts/\Str x.name/\ig x.offset
 len h:=by obtain ⟨A,n,c,rfl,_⟩:=h;rfl
 keep hs h:=by obtain ⟨A,n,c,rfl,h,hc⟩:=h;exact ⟨A,n,c,rfl,h.keep hs,hc⟩
 mono hs h:=by obtain ⟨A,n,c,rfl,h,hc⟩:=h;exact ⟨A,n,c,rfl,h.mono hs,hc⟩
instance:Rep Rel where
 size:=4
 rd w S cs x:= ∃A n c A' n' c' aY n'' c'',cs=[.string x.name,.slice A n c,.slice A' n' c',.slice aY n'' c'']/\Sl w S A n c x.columns/\Sl w S A' n' c' x.keys/\Sl w S aY n'' c'' x.rows/\Str x.name
 len h:=by obtain ⟨_,_,_,_,_,_,_,_,_,rfl,_⟩:=h;rfl
 keep hs h:=by obtain ⟨A,n,c,A',n',c',aY,n'',c'',rfl,h1,h2,h3,h4⟩:=h;exact ⟨A,n,c,A',n',c',aY,n'',c'',rfl,h1.keep hs,h2.keep hs,h3.keep hs,h4⟩
 mono hs h:=by obtain ⟨A,n,c,A',n',c',aY,n'',c'',rfl,h1,h2,h3,h4⟩:=h;exact ⟨A,n,c,A',n',c',aY,n'',c'',rfl,h1.mono hs,h2.mono hs,h3.mono hs,h4⟩
section
variable {P:Program}{t:TypeId}
def bF (P:Program)(f:Field)(o:Nat)(β:Type)[Rep β]:Prop:=f.offset=o/\P.cellsOf f.type=Rep.size β/\gJ P f.type β
theorem BD {α β γ:Type}[Rep α][Rep β][Rep γ]{f0 f1:Field}(h:P.underlying t=some (.struct #[f0,f1]))(hc:P.cellsOf t=Rep.size α+Rep.size β)(h0:bF P f0 0 α)(h1:bF P f1 (Rep.size α) β)(mk: ∀w S ca cb (a:α) (b:β),Rep.rd w S ca a->Rep.rd w S cb b-> ∃g:γ,Rep.rd w S (ca++cb) g):gJ P t γ:=λH enc w spare held fuel cs y hy=>by
 obtain ⟨xs,n,_,_,hl,hlen,hf⟩:=DataW.trod_struct h hy
 match xs,hlen with
 | [y0,y1],_=>
  have e0:=hf 0 f0 rfl
  have e1:=hf 1 f1 rfl
  rw[h0.1,h0.2.1]at e0
  rw[h1.1,h1.2.1]at e1
  obtain ⟨a,ra⟩:=h0.2.2 H enc w spare held n _ y0 (by simpa using e0)
  obtain ⟨b,rb⟩:=h1.2.2 H enc w spare held n _ y1 (by simpa using e1)
  obtain ⟨g,rg⟩:=mk _ _ _ _ a b ra rb
  refine ⟨g,?_⟩
  have:cs=(cs.drop 0).take (Rep.size α)++(cs.drop (Rep.size α)).take (Rep.size β):=by
   rw[List.drop_zero,List.take_of_length_le (l:=cs.drop (Rep.size α)) (by rw[List.length_drop];omega),List.take_append_drop]
  rw[this]
  exact rg
theorem rJ {α β δ γ:Type}[Rep α][Rep β][Rep δ][Rep γ]{f0 f1 f2:Field}(h:P.underlying t=some (.struct #[f0,f1,f2]))(hc:P.cellsOf t=Rep.size α+Rep.size β+Rep.size δ)(h0:bF P f0 0 α)(h1:bF P f1 (Rep.size α) β)(h2:bF P f2 (Rep.size α+Rep.size β) δ)(mk: ∀w S ca cb cd (a:α) (b:β) (d:δ),Rep.rd w S ca a->Rep.rd w S cb b->Rep.rd w S cd d-> ∃g:γ,Rep.rd w S (ca++cb++cd) g):gJ P t γ:=λH enc w spare held fuel cs y hy=>by
 obtain ⟨xs,n,_,_,hl,hlen,hf⟩:=DataW.trod_struct h hy
 match xs,hlen with
 | [y0,y1,y2],_=>
  have e0:=hf 0 f0 rfl
  have e1:=hf 1 f1 rfl
  have e2:=hf 2 f2 rfl
  rw[h0.1,h0.2.1]at e0
  rw[h1.1,h1.2.1]at e1
  rw[h2.1,h2.2.1]at e2
  obtain ⟨a,ra⟩:=h0.2.2 H enc w spare held n _ y0 (by simpa using e0)
  obtain ⟨b,rb⟩:=h1.2.2 H enc w spare held n _ y1 (by simpa using e1)
  obtain ⟨d,rd⟩:=h2.2.2 H enc w spare held n _ y2 (by simpa using e2)
  obtain ⟨g,rg⟩:=mk _ _ _ _ _ a b d ra rb rd
  refine ⟨g,?_⟩
  have:cs=(cs.drop 0).take (Rep.size α)++(cs.drop (Rep.size α)).take (Rep.size β)++(cs.drop (Rep.size α+Rep.size β)).take (Rep.size δ):=by
   rw[List.drop_zero,<-List.take_add,List.take_of_length_le (l:=cs.drop (Rep.size α+Rep.size β)) (by rw[List.length_drop];omega),List.take_append_drop]
  rw[this]
  exact rg
theorem zF {α β δ ε γ:Type}[Rep α][Rep β][Rep δ][Rep ε][Rep γ]{f0 f1 f2 f3:Field}(h:P.underlying t=some (.struct #[f0,f1,f2,f3]))(hc:P.cellsOf t=Rep.size α+Rep.size β+Rep.size δ+Rep.size ε)(h0:bF P f0 0 α)(h1:bF P f1 (Rep.size α) β)(h2:bF P f2 (Rep.size α+Rep.size β) δ)(h3:bF P f3 (Rep.size α+Rep.size β+Rep.size δ) ε)(mk: ∀w S ca cb cd ce (a:α) (b:β) (d:δ) (x:ε),Rep.rd w S ca a->Rep.rd w S cb b->Rep.rd w S cd d->Rep.rd w S ce x-> ∃g:γ,Rep.rd w S (ca++cb++cd++ce) g):gJ P t γ:=λH enc w spare held fuel cs y hy=>by
 obtain ⟨xs,n,_,_,hl,hlen,hf⟩:=DataW.trod_struct h hy
 match xs,hlen with
 | [y0,y1,y2,y3],_=>
  have e0:=hf 0 f0 rfl
  have e1:=hf 1 f1 rfl
  have e2:=hf 2 f2 rfl
  have e3:=hf 3 f3 rfl
  rw[h0.1,h0.2.1]at e0
  rw[h1.1,h1.2.1]at e1
  rw[h2.1,h2.2.1]at e2
  rw[h3.1,h3.2.1]at e3
  obtain ⟨a,ra⟩:=h0.2.2 H enc w spare held n _ y0 (by simpa using e0)
  obtain ⟨b,rb⟩:=h1.2.2 H enc w spare held n _ y1 (by simpa using e1)
  obtain ⟨d,rd⟩:=h2.2.2 H enc w spare held n _ y2 (by simpa using e2)
  obtain ⟨x,rx⟩:=h3.2.2 H enc w spare held n _ y3 (by simpa using e3)
  obtain ⟨g,rg⟩:=mk _ _ _ _ _ _ a b d x ra rb rd rx
  refine ⟨g,?_⟩
  have:cs=(cs.drop 0).take (Rep.size α)++(cs.drop (Rep.size α)).take (Rep.size β)++(cs.drop (Rep.size α+Rep.size β)).take (Rep.size δ)++(cs.drop (Rep.size α+Rep.size β+Rep.size δ)).take (Rep.size ε):=by
   rw[List.drop_zero,<-List.take_add,<-List.take_add,List.take_of_length_le (l:=cs.drop (Rep.size α+Rep.size β+Rep.size δ)) (by rw[List.length_drop];omega),List.take_append_drop]
  rw[this]
  exact rg
variable {f0 f1 f2 f3:Field}
theorem JJ (h:P.underlying t=some (.struct #[f0,f1,f2]))(hc:P.cellsOf t=3)(h0:bF P f0 0 Int)(h1:bF P f1 1 Int)(h2:bF P f2 2 ByteArray):gJ P t Val:=
 rJ h hc h0 h1 h2 λ_ _ _ _ _ a b d ra rb rd=>⟨⟨a,b,d⟩,by rw[ra.1,rb.1,rd.1];rfl,ra.2,rb.2,rd.2⟩
theorem JG (h:P.underlying t=some (.struct #[f0,f1,f2]))(hc:P.cellsOf t=3)(h0:bF P f0 0 ByteArray)(h1:bF P f1 1 Int)(h2:bF P f2 2 Bool):gJ P t Col:=
 rJ h hc h0 h1 h2 λ_ _ _ _ _ a b d ra rb rd=>⟨⟨a,b,d⟩,by rw[ra.1,rb.1,rd];rfl,ra.2,rb.2⟩
theorem wZ (h:P.underlying t=some (.struct #[f0,f1]))(hc:P.cellsOf t=2)(h0:bF P f0 0 Int)(h1:bF P f1 1 Int):gJ P t Shift:=
 BD h hc h0 h1 λ_ _ _ _ a b ra rb=>⟨⟨a,b⟩,by rw[ra.1,rb.1];rfl,ra.2,rb.2⟩
theorem JH (h:P.underlying t=some (.struct #[f0,f1]))(hc:P.cellsOf t=2)(h0:bF P f0 0 (List Val))(h1:bF P f1 1 Int):gJ P t Ent:=
 BD h hc h0 h1 λ_ _ _ _ a b ⟨A,n,c,hcs,ha⟩ rb=>⟨⟨a,b⟩,A,n,c,by rw[hcs,rb.1];rfl,ha,rb.2⟩
theorem GI (h:P.underlying t=some (.struct #[f0,f1,f2]))(hc:P.cellsOf t=3)(h0:bF P f0 0 ByteArray)(h1:bF P f1 1 Int)(h2:bF P f2 2 (List Shift)):gJ P t Zone:=
 rJ h hc h0 h1 h2 λ_ _ _ _ _ a b d ra rb ⟨A,n,c,hcs,hd⟩=>⟨⟨a,b,d⟩,A,n,c,by rw[ra.1,rb.1,hcs];rfl,hd,ra.2,rb.2⟩
theorem GG (h:P.underlying t=some (.struct #[f0,f1,f2,f3]))(hc:P.cellsOf t=6)(h0:bF P f0 0 Int)(h1:bF P f1 1 Val)(h2:bF P f2 4 ByteArray)(h3:bF P f3 5 Int):gJ P t Node:=
 zF h hc h0 h1 h2 h3 λ_ _ _ _ _ _ a b d x ra rb rd rx=>⟨⟨a,b,d,x⟩,by rw[ra.1,rb.1,rd.1,rx.1];rfl,ra.2,rb.2,rd.2,rx.2⟩
theorem JI (h:P.underlying t=some (.struct #[f0,f1,f2,f3]))(hc:P.cellsOf t=4)(h0:bF P f0 0 ByteArray)(h1:bF P f1 1 (List Col))(h2:bF P f2 2 (List (List ByteArray)))(h3:bF P f3 3 (List Ent)):gJ P t Rel:=
 zF h hc h0 h1 h2 h3 λ_ _ _ _ _ _ a b d x ra ⟨A,n,c,e1,r1⟩ ⟨A',n',c',e2,r2⟩ ⟨aY,n'',c'',e3,r3⟩=>⟨⟨a,b,d,x⟩,A,n,c,A',n',c',aY,n'',c'',by rw[ra.1,e1,e2,e3];rfl,r1,r2,r3,ra.2⟩
end
def iO (a b:Int):Int:=if a<b then -1 else if b<a then 1 else 0
def iq (a b:ByteArray):Int:=if Op.bytesLess a.toList b.toList=true then -1 else if a.toList=b.toList then 0 else 1
def bf (a b:Val):Int:=if iO a.kind b.kind≠0 then iO a.kind b.kind else if iO a.num b.num≠0 then iO a.num b.num else iq a.str b.str
def aC:List Val->List Val->Int
 | [],[]=>0
 | [],_ :: _=> -1
 | _ :: _,[]=>1
 |a :: l,b :: m=>if bf a b≠0 then bf a b else aC l m
def fJ (s:ByteArray):Bool:=s.toList.isEmpty
def valid (v:Val):Bool:=
 if v.kind=0 then (v.num==0)&&fJ v.str
 else if v.kind=1 then fJ v.str&&(v.num==0 || v.num==1)
 else if v.kind=2 then fJ v.str&&(decide (-1073741824<=v.num)&&decide (v.num<=1073741824))
 else if v.kind=3 then (v.num==0)&&decide (v.str.size<=64)
 else if v.kind=4 then fJ v.str&&(decide (0<=v.num)&&decide (v.num<=575999999))
 else false
def fq (s:ByteArray)(i:Nat):Nat:=(s.data.toList.getD i 0).toNat
def iB (c:Nat)(i:Nat):Bool:=(decide (97<=c)&&decide (c<=122)) || (decide (0<i)&&(decide (c=95) || (decide (48<=c)&&decide (c<=57))))
def gB (s:ByteArray):Nat->Nat->Bool
 | 0,_=>true
 |b+1,i=>iB (fq s i) i&&gB s b (i+1)
def cu (s:ByteArray):Bool:=decide (s.size<=24)&&(gB s s.size 0&&decide (0<s.size))
def aU (name:ByteArray):Nat->List Col->Int
 | _,[]=> -1
 |k,c :: l=>if c.name.toList==name.toList then k else aU name (k+1) l
def index (cols:List Col)(name:ByteArray):Int:=aU name 0 cols
def ib (cols:List Col)(i:Nat)(c:Col):Int:=
 if cu c.name=false then 4 else if c.kind<1\/4<c.kind then 7 else if index cols c.name<i then 6 else 0
def aj {α:Type}(f:Nat->α->Int):Nat->List α->Int
 | _,[]=>0
 |k,x :: l=>if f k x≠0 then f k x else aj f (k+1) l
def aD (cols:List Col):Int:=if cols.length<1\/12<cols.length then 2 else aj (ib cols) 0 cols
def dF (c:Col)(v:Val):Int:=
 if valid v=false then 8 else if (v.kind=0/\c.nullable=false)\/(v.kind≠0/\v.kind≠c.kind) then 7 else 0
def aS (cols:List Col)(row:List Val):Int:=
 if row.length≠cols.length then 8 else aj (λi v=>dF (cols.getD i default) v) 0 row
def dw (x:Ent):Int:=
 if 12<x.row.length\/x.count < -65536\/65536<x.count then 2 else aj (λ_ v=>if valid v then 0 else 8) 0 x.row
def dO (b:List Ent)(i:Nat)(x:Ent):Int:=
 if dw x≠0 then dw x else if x.count=0 then 8 else if 0<i/\0<=aC (b.getD (i-1) default).row x.row then 14 else 0
def aX (b:List Ent):Int:=if 4096<b.length then 2 else aj (dO b) 0 b
def gU (b:List Ent):Bool:=aX b==0&&b.all λx=>decide (0<=x.count)
def l6 (n:Int):Bool:=decide (-840<=n)&&decide (n<=840)
def dZ (l:List Shift)(i:Nat)(s:Shift):Int:=
 if s.at_<1\/575999999<s.at_\/l6 s.offset=false then 1 else if 0<i/\s.at_<=((l[i-1]?).map Shift.at_).getD 0 then 14 else 0
def bi (l:List Shift):Nat->List Shift->Int
 | _,[]=>0
 |k,x :: r=>if dZ l k x≠0 then dZ l k x else bi l (k+1) r
def aJ (z:Zone):Int:=if 64<z.shifts.length then 2 else if l6 z.offset=false then 1 else bi z.shifts 0 z.shifts
def z8 (l:List Zone):Int:=aj (λ_ z=>aJ z) 0 l
def gY (name:ByteArray):Nat->List Zone->Int
 | _,[]=> -1
 |k,z :: l=>if z.name.toList==name.toList then k else gY name (k+1) l
def fF (zs:List Zone)(name:ByteArray):Int:=gY name 0 zs
def dn (zs:List Zone)(name:ByteArray):Zone:=if fF zs name<0 then default else zs.getD (fF zs name).toNat default
def gV (t o:Int):Int:=if t+o<0 then -1 else (t+o) / 1440
def fP (t:Int):List Shift->Int->Int->Int
 | [],best,o=>max best (gV t o)
 |s :: l,best,o=>if t<s.at_ then max best (gV t o) else fP t l (max best (gV (s.at_-1) o)) s.offset
def uK (z:Zone)(t:Int):Int:=fP t z.shifts 0 z.offset
def gu (z:Zone)(t:Int):Int:=if aJ z≠0 then aJ z else if t<0\/575999999<t then 1 else 0
def nU (z:Zone)(t:Int):Int×Int:=if gu z t≠0 then (0,gu z t) else (uK z t,0)
def eY:List UInt8->Nat
 | []=>0
 |c :: l=>if c=46 then 0 else eY l+1
def ql (s:ByteArray):Nat:=eY s.toList
def iy (s:ByteArray):Bool:=
 if ql s<s.size then cu (s.extract 0 (ql s))&&cu (s.extract (ql s+1) s.size) else cu s
def jm (l:List ByteArray)(s:ByteArray):Bool:=l.any λx=>x.toList==s.toList
def words:List ByteArray:=[⟨#[97,110,100]⟩,⟨#[111,114]⟩,⟨#[110,111,116]⟩,⟨#[110,117,108,108]⟩,⟨#[116,114,117,101]⟩,⟨#[102,97,108,115,101]⟩,⟨#[98,121]⟩,⟨#[115,101,108,102]⟩]
def qI:List ByteArray:=[⟨#[105,102]⟩,⟨#[99,111,97,108,101,115,99,101]⟩,⟨#[105,115,110,117,108,108]⟩,⟨#[108,101,110,103,116,104]⟩,⟨#[100,97,121]⟩]
def nG (s:ByteArray):Bool:=jm words s
def nE (s:ByteArray):Bool:=jm qI s
def arity (op ar:Int):Int:=
 if op=0\/op=1 then 0 else if op=2\/op=3\/op=16\/op=19\/op=20 then 1 else if op=17 then 3 else if op=21 then ar else if 4<=op/\op<=18 then 2 else -1
def iX (v:Val):Bool:=v.kind==0&&v.num==0&&fJ v.str
def shaped (n:Node):Bool:=
 if n.op=0 then valid n.value&&fJ n.name&&n.arity==0
 else iX n.value&&
  (if n.op=21 then iy n.name&&!nE n.name&&!nG n.name&&(decide (0<=n.arity)&&decide (n.arity<=8))
   else n.arity==0&&(if n.op=1 then cu n.name&&!nG n.name else if n.op=20 then iy n.name&&!nG n.name else fJ n.name&&decide (0<=arity n.op n.arity)))
def raise (l:List Int):Int:=l.foldl (λh x=>max h (1+x)) 1
def lc (n:Node)(len:Nat):Nat:=len-(arity n.op n.arity).toNat
def bg:List Int->List Node->Int
 |st,[]=>if st.length≠1 then 8 else 0
 |st,n :: l=>
  if shaped n=false\/(st.length:Int)<arity n.op n.arity then 8
  else if 64<raise (st.drop (lc n st.length)) then 2
  else bg (st.take (lc n st.length)++[raise (st.drop (lc n st.length))]) l
def bW (e:List Node):Int:=if 256<e.length then 2 else bg [] e
structure Kd where
 kind:Int
 null:Bool
instance:Inhabited Kd:=⟨⟨0,false⟩⟩
def fits (x:Kd)(k:Int):Bool:=x.kind==k || x.kind==0
def common (a b:Kd):Int×Bool:=if a.kind=0 then (b.kind,true) else (a.kind,fits b a.kind)
def ek (op:Int)(x:Kd):Kd×Bool:=
 if op=2 then (⟨1,x.null⟩,fits x 1) else if op=3 then (⟨2,x.null⟩,fits x 2) else if op=16 then (⟨1,false⟩,true) else if op=19 then (⟨2,x.null⟩,fits x 3) else (⟨2,x.null⟩,fits x 4)
def aO (op:Int)(x y:Kd):Kd×Bool:=
 if op=4 then (if x.kind=4 then (⟨4,true⟩,fits y 2) else (⟨2,true⟩,fits x 2&&fits y 2))
 else if op=5 then (if y.kind=4 then (⟨2,x.null || y.null⟩,fits x 4) else if x.kind=4 then (⟨4,true⟩,fits y 2) else (⟨2,true⟩,fits x 2&&fits y 2))
 else if op=6\/op=7\/op=8 then (⟨2,true⟩,fits x 2&&fits y 2)
 else if op=9 then (⟨3,true⟩,fits x 3&&fits y 3)
 else if op=14\/op=15 then (⟨1,x.null || y.null⟩,fits x 1&&fits y 1)
 else if op=18 then (⟨(common x y).1,x.null&&y.null⟩,(common x y).2)
 else (⟨1,x.null || y.null⟩,(common x y).2)
def aQ (n:Node):List Kd->Kd×Bool
 | []=>(⟨n.value.kind,n.value.kind==0⟩,true)
 | [x]=>ek n.op x
 | [x,y]=>aO n.op x y
 |x :: y :: z :: _=>(⟨(common y z).1,y.null || z.null⟩,(common y z).2&&fits x 1)
def aF (cols:List Col)(zs:List Zone)(n:Node)(xs:List Kd):Int×Kd:=
 if n.op=1 then (if index cols n.name<0 then (5,default) else (0,⟨(cols.getD (index cols n.name).toNat default).kind,(cols.getD (index cols n.name).toNat default).nullable⟩))
 else if n.op=21 then (5,default)
 else if n.op=20/\fF zs n.name<0 then (5,default)
 else if (aQ n xs).2=false then (7,default) else (0,(aQ n xs).1)
def aZ (cols:List Col)(zs:List Zone):List Kd->List Node->Int×Kd
 |st,[]=>(0,st.headD default)
 |st,n :: l=>
  if (aF cols zs n (st.drop (lc n st.length))).1≠0 then ((aF cols zs n (st.drop (lc n st.length))).1,default)
  else aZ cols zs (st.take (lc n st.length)++[(aF cols zs n (st.drop (lc n st.length))).2]) l
def bT (e:List Node)(cols:List Col)(zs:List Zone):Int:=
 if bW e≠0 then bW e else if aD cols≠0 then aD cols else z8 zs
def cK (e:List Node)(cols:List Col)(zs:List Zone):Int×Kd:=
 if bT e cols zs≠0 then (bT e cols zs,default) else aZ cols zs [] e
def aW:Val:=⟨0,0,⟨#[]⟩⟩
def dM (b:Bool):Val:=⟨1,if b then 1 else 0,⟨#[]⟩⟩
def ed (n:Int)(ok:Bool):Val:=if ok then ⟨2,n,⟨#[]⟩⟩ else aW
def lY (n:Int):Val:=if n<0\/575999999<n then aW else ⟨4,n,⟨#[]⟩⟩
def truth (v:Val):Int:=if v.kind=1/\valid v=true then v.num else -1
def dU (a b:Val)(stop:Int):Val:=
 if truth a=stop\/truth b=stop then dM (stop==1) else if truth a<0\/truth b<0 then aW else dM (stop==0)
def bV (n:Int):Bool:=decide (-1073741824<=n)&&decide (n<=1073741824)
def pg (a b:Int):Int×Bool:=if bV a&&bV b&&bV (a+b) then (a+b,true) else (0,false)
def iD (a b:Int):Int×Bool:=if bV a&&bV b&&bV (a-b) then (a-b,true) else (0,false)
def pQ (a b:Int):Int×Bool:=if bV a&&bV b&&bV (a*b) then (a*b,true) else (0,false)
def lU (a b:Int):Int×Bool:=if bV a&&bV b&&b != 0 then (a.fdiv b,true) else (0,false)
def mi (a b:Int):Int×Bool:=if bV a&&bV b&&b != 0 then (a.fmod b,true) else (0,false)
def bQ (op:Int)(x y:Val):Val:=
 if op=4 then (if x.kind=4 then lY (x.num+y.num) else ed (pg x.num y.num).1 (pg x.num y.num).2)
 else if op=5 then (if x.kind=4/\y.kind=2 then lY (x.num-y.num) else ed (iD x.num y.num).1 (iD x.num y.num).2)
 else if op=6 then ed (pQ x.num y.num).1 (pQ x.num y.num).2
 else if op=7 then ed (lU x.num y.num).1 (lU x.num y.num).2
 else ed (mi x.num y.num).1 (mi x.num y.num).2
def dY (op:Int)(x y:Val):Val:=
 if op=9 then (if 64<(x.str++y.str).size then aW else ⟨3,0,x.str++y.str⟩)
 else if op=10 then dM (bf x y==0)
 else if op=11 then dM (bf x y != 0)
 else if op=12 then dM (decide (bf x y<0))
 else if op=13 then dM (decide (bf x y<=0))
 else bQ op x y
def xP (zs:List Zone)(op:Int)(name:ByteArray)(x:Val):Val:=
 if op=16 then dM (x.kind==0) else if x.kind=0 then aW else if op=2 then dM (x.num==0) else if op=3 then ed (iD 0 x.num).1 (iD 0 x.num).2
 else if op=19 then ed x.str.size true else ed (nU (dn zs name) x.num).1 true
def eO (zs:List Zone)(n:Node):List Val->Val
 | []=>n.value
 | [x]=>xP zs n.op n.name x
 | [x,y]=>if n.op=14 then dU x y 0 else if n.op=15 then dU x y 1 else if n.op=18 then (if x.kind=0 then y else x) else if x.kind=0\/y.kind=0 then aW else dY n.op x y
 |x :: y :: z :: _=>if truth x=1 then y else z
def je (cols:List Col)(row:List Val)(zs:List Zone)(n:Node)(xs:List Val):Val:=
 if n.op=1 then row.getD (index cols n.name).toNat aW else eO zs n xs
def jg (cols:List Col)(row:List Val)(zs:List Zone):List Val->List Node->Val
 |st,[]=>st.headD aW
 |st,n :: l=>jg cols row zs (st.take (lc n st.length)++[je cols row zs n (st.drop (lc n st.length))]) l
def iI (e:List Node)(cols:List Col)(row:List Val)(zs:List Zone):Int×Val:=
 if (cK e cols zs).1≠0 then ((cK e cols zs).1,aW) else if aS cols row≠0 then (aS cols row,aW) else (0,jg cols row zs [] e)
def jN (t:Int):List Shift->Int->Int
 | [],o=>o
 |s :: l,o=>jN t l (if s.at_<=t then s.offset else o)
def rP (z:Zone)(t:Int):Int:=(t+jN t z.shifts z.offset) / 1440
def dV (z:Zone)(t:Int):List Shift->Int->Int
 | [],d=>d
 |s :: l,d=>dV z t l (if s.at_<=t then max d (rP z (s.at_-1)) else d)
def MV (z:Zone)(t:Int):Int:=dV z t z.shifts (max 0 (rP z t))
theorem uV (t:Int): ∀(p l:List Shift) (o:Int),jN t (p++l) o=jN t l (jN t p o)
 | [],_,_=>rfl
 |s :: p,l,o=>by rw[List.cons_append,jN,jN];exact uV t p l _
theorem tV (t:Int): ∀(l:List Shift) (o:Int),(∀s∈l,t<s.at_)->jN t l o=o
 | [],_,_=>rfl
 |s :: l,o,h=>by
  have hs:=h s (by simp)
  rw[jN,if_neg (by omega)]
  exact tV t l o λq hq=>h q (by simp[hq])
theorem BB (t u:Int): ∀(l:List Shift) (o:Int),(∀s∈l,s.at_<=t)->(∀s∈l,s.at_<=u)->jN t l o=jN u l o
 | [],_,_,_=>rfl
 |s :: l,o,h,h'=>by
  rw[jN,jN,if_pos (h s (by simp)),if_pos (h' s (by simp))]
  exact BB t u l _ (λq hq=>h q (by simp[hq])) (λq hq=>h' q (by simp[hq]))
theorem pY (z:Zone)(t:Int): ∀(l:List Shift) (a b:Int),dV z t l (max a b)=max (dV z t l a) b
 | [],a,b=>rfl
 |s :: l,a,b=>by
  rw[dV,dV]
  split
  ·rw[show max (max a b) (rP z (s.at_-1))=max (max a (rP z (s.at_-1))) b by omega]
   exact pY z t l _ b
  ·exact pY z t l a b
theorem rM (z:Zone)(t:Int): ∀(l:List Shift) (d:Int),(∀s∈l,t<s.at_)->dV z t l d=d
 | [],_,_=>rfl
 |s :: l,d,h=>by
  have hs:=h s (by simp)
  rw[dV,if_neg (by omega)]
  exact rM z t l d λq hq=>h q (by simp[hq])
theorem wo {b t o:Int}(hb:0<=b):max b (gV t o)=max b ((t+o) / 1440):=by
 unfold gV
 split <;> omega
theorem DY (z:Zone)(t:Int): ∀(l p:List Shift) (best:Int),z.shifts=p++l->(p++l).Pairwise (λa b=>a.at_<b.at_)->(∀s∈p,s.at_<=t)->0<=best->
  fP t l best (jN t p z.offset)=max (dV z t l best) (rP z t)
 | [],p,best,hz,hp,hle,hb=>by
  rw[fP,dV,wo hb,rP,hz,List.append_nil]
 |s :: l,p,best,hz,hp,hle,hb=>by
  have hpw:=List.pairwise_append.1 hp
  have hsl:=List.pairwise_cons.1 hpw.2.1
  rw[fP]
  by_cases hs:t<s.at_
  ·have hall: ∀q∈s :: l,t<q.at_:=by
    intro q hq
    rcases List.mem_cons.1 hq with rfl|hq
    ·exact hs
    ·have:=hsl.1 q hq;omega
   rw[if_pos hs,rM z t _ _ hall,wo hb,rP,hz,uV,tV t _ _ hall]
  ·rw[if_neg hs]
   have hpre: ∀q∈p,q.at_<=s.at_-1:=λq hq=>by have:=hpw.2.2 q hq s (by simp);omega
   have hpost: ∀q∈s :: l,s.at_-1<q.at_:=by
    intro q hq
    rcases List.mem_cons.1 hq with rfl|hq
    ·omega
    ·have:=hsl.1 q hq;omega
   have hr:rP z (s.at_-1)=(s.at_-1+jN t p z.offset) / 1440:=by
    rw[rP,hz,uV,tV _ _ _ hpost,BB (s.at_-1) t p _ hpre hle]
   have ho:jN t (p++[s]) z.offset=s.offset:=by rw[uV,jN,if_pos (by omega)];rfl
   have ih:=DY z t l (p++[s]) (max best (gV (s.at_-1) (jN t p z.offset))) (by rw[hz];simp) (by simpa using hp)
    (by intro q hq;rcases List.mem_append.1 hq with hq|hq;exact hle q hq;simp at hq;subst hq;omega) (by omega)
   rw[ho]at ih
   rw[ih,dV,if_pos (by omega),hr,wo hb]
theorem yQ {l:List Shift}: ∀(r:List Shift) (k:Nat),l.drop k=r->bi l k r=0->(∀x,0<k->l[k-1]?=some x-> ∀s∈r,x.at_<s.at_)/\r.Pairwise (λa b=>a.at_<b.at_)
 | [],k,_,_=>⟨λ_ _ _ s hs=>by (cases hs),List.Pairwise.nil⟩
 |s :: r,k,hd,h=>by
  rw[bi]at h
  split at h
  ·contradiction
  ·rename_i h0
   have h0:dZ l k s=0:=by omega
   have hk:l[k]?=some s:=by
    have:=congrArg (λq=>q[0]?) hd
    simpa using this
   have hd':l.drop (k+1)=r:=by
    have:=congrArg (λq=>q.drop 1) hd
    simpa using this
   obtain ⟨i1,i2⟩:=yQ r (k+1) hd' h
   have i1':=i1 s (by omega) (by simpa using hk)
   refine ⟨λx hk0 hx q hq=>?_,List.pairwise_cons.2 ⟨i1',i2⟩⟩
   have hxs:x.at_<s.at_:=by
    rw[dZ]at h0
    split at h0
    ·omega
    ·split at h0
     ·omega
     ·rename_i hn
      rw[hx]at hn
      simp at hn
      have:=hn hk0
      omega
   rcases List.mem_cons.1 hq with rfl|hq
   ·exact hxs
   ·have:=i1' q hq;omega
theorem Q7 {z:Zone}(hz:aJ z=0)(t:Int):uK z t=MV z t:=by
 have hf:bi z.shifts 0 z.shifts=0:=by
  rw[aJ]at hz
  split at hz
  ·omega
  ·split at hz
   ·omega
   ·exact hz
 have hp:=(yQ z.shifts 0 rfl hf).2
 have:=DY z t z.shifts [] 0 rfl (by simpa using hp) (λ_ h=>by cases h) (by omega)
 rw[uK,MV,pY]
 exact this
def iA:Nat->List Ent->List Ent->List Ent
 | 0,_,_=>[]
 | _+1,[],[]=>[]
 |f+1,[],y :: ys=>y :: iA f [] ys
 |f+1,x :: xs,[]=>x :: iA f xs []
 |f+1,x :: xs,y :: ys=>
  if aC x.row y.row<0 then x :: iA f xs (y :: ys)
  else if 0<aC x.row y.row then y :: iA f (x :: xs) ys
  else ⟨x.row,x.count+y.count⟩ :: iA f xs ys
def Gl (xs ys:List Ent):List Ent:=iA (xs.length+ys.length) xs ys
def Nt (C:Int)(l:List Ent):Prop:= ∀x∈l, -C<=x.count/\x.count<=C
def uZ:Nat->List Ent->List Ent
 | 0,l=>l
 |f+1,l=>if l.length<2 then l else Gl (uZ f (l.take (l.length / 2))) (uZ f (l.drop (l.length / 2)))
def xh (l:List Ent):List Ent:=uZ l.length l
def iZ (l:List Ent):List Ent:=l.filter λx=>!(x.count==0)
def jG:Nat->List Ent->Bool
 | _,[]=>false
 |m,x :: l=>if x.count=0 then jG m l else (decide (x.count < -65536) || decide (65536<x.count) || decide (m=4096)) || jG (m+1) l
structure Total {α:Type} (c:α->α->Int):Prop where
 zero: ∀a b,c a b=0↔a=b
 anti: ∀a b,c a b<0↔0<c b a
 trans: ∀a b d,c a b<0->c b d<0->c a d<0
theorem Total.self {α:Type}{c:α->α->Int}(h:Total c)(a:α):c a a=0:=(h.zero a a).2 rfl
theorem Total.lt_of {α:Type}{c:α->α->Int}(h:Total c){a b:α}(h1:¬c a b<0)(h2:¬c a b=0):c b a<0:=(h.anti b a).2 (by omega)
theorem P5 {a b:Int}:iO a b<0↔a<b:=by rw[iO];(repeat' split) <;> omega
theorem xW {a b:Int}:iO a b=0↔a=b:=by rw[iO];(repeat' split) <;> omega
theorem vJ: ∀l:List UInt8,Op.bytesLess l l=false
 | []=>rfl
 |x :: l=>by simp[Op.bytesLess,vJ l]
theorem Hz {x y:UInt8}{l m:List UInt8}:Op.bytesLess (x :: l) (y :: m)=true↔x.toNat<y.toNat\/(x=y/\Op.bytesLess l m=true):=by
 simp only[Op.bytesLess,Bool.or_eq_true,Bool.and_eq_true,decide_eq_true_eq,beq_iff_eq]
 exact Iff.rfl
theorem yE: ∀l m n:List UInt8,Op.bytesLess l m=true->Op.bytesLess m n=true->Op.bytesLess l n=true
 | _,_,[],_,h=>by simp[Op.bytesLess]at h
 | [],_,_ :: _,_,_=>rfl
 | _ :: _,[],_ :: _,h,_=>by simp[Op.bytesLess]at h
 |x :: l,y :: m,z :: n,h,h'=>by
  rw[Hz]at h h'⊢
  rcases h with h|⟨rfl,h⟩
  ·rcases h' with h'|⟨rfl,h'⟩
   ·exact .inl (by omega)
   ·exact .inl h
  ·rcases h' with h'|⟨rfl,h'⟩
   ·exact .inl h'
   ·exact .inr ⟨rfl,yE l m n h h'⟩
theorem Ld: ∀(l m:List UInt8),Op.bytesLess l m=false->Op.bytesLess m l=false->l=m
 | [],[]=>λ_ _=>rfl
 | [],_ :: _=>λh _=>by simp[Op.bytesLess]at h
 | _ :: _,[]=>λ_ h=>by simp[Op.bytesLess]at h
 |x :: l,y :: m=>λh h'=>by
  have h1:¬Op.bytesLess (x :: l) (y :: m)=true:=by rw[h];simp
  have h2:¬Op.bytesLess (y :: m) (x :: l)=true:=by rw[h'];simp
  rw[Hz]at h1 h2
  have e:x=y:=UInt8.toNat_inj.1 (by omega)
  subst e
  rw[Ld l m (by cases q:Op.bytesLess l m;rfl;exact absurd (.inr ⟨rfl,q⟩) h1) (by cases q:Op.bytesLess m l;rfl;exact absurd (.inr ⟨rfl,q⟩) h2)]
theorem ba_eq {a b:ByteArray}(h:a.toList=b.toList):a=b:=by
 rw[ByteArray.toList_eq,ByteArray.toList_eq]at h
 obtain ⟨⟨a⟩⟩:=a
 obtain ⟨⟨b⟩⟩:=b
 simp at h
 rw[h]
theorem yK {a b:ByteArray}:iq a b<0↔Op.bytesLess a.toList b.toList=true:=by
 rw[iq]
 split
 ·simp_all
 ·split <;> simp_all
theorem rY {a b:ByteArray}:iq a b=0↔a=b:=by
 rw[iq]
 split
 ·rename_i h
  constructor
  ·intro q;omega
  ·intro q;rw[q,vJ]at h;cases h
 ·split
  ·rename_i h;exact ⟨λ_=>ba_eq h,λ_=>rfl⟩
  ·rename_i h;exact ⟨λq=>absurd q (by omega),λq=>absurd (by rw[q]) h⟩
theorem sw:Total iq:=by
 refine ⟨λ_ _=>rY,λa b=>?_,λa b d h h'=>?_⟩
 ·constructor
  ·intro h
   have h1:¬iq b a<0:=λq=>by
    have:=yE _ _ _ (yK.1 h) (yK.1 q)
    rw[vJ]at this;cases this
   have h2:¬iq b a=0:=λq=>by
    rw[rY]at q;subst q;rw[rY.2 rfl]at h;omega
   omega
  ·intro h
   by_cases q:iq a b<0
   ·exact q
   ·have h1:Op.bytesLess a.toList b.toList=false:=by cases e:Op.bytesLess a.toList b.toList;rfl;exact absurd (yK.2 e) q
    have h2:Op.bytesLess b.toList a.toList=false:=by cases e:Op.bytesLess b.toList a.toList;rfl;have:=yK.2 e;omega
    have:=ba_eq (Ld _ _ h1 h2)
    subst this
    rw[rY.2 rfl]at h;omega
 ·exact yK.2 (yE _ _ _ (yK.1 h) (yK.1 h'))
theorem Ib {a b:Val}:bf a b<0↔a.kind<b.kind\/(a.kind=b.kind/\(a.num<b.num\/(a.num=b.num/\iq a.str b.str<0))):=by
 rw[bf]
 have h1:=@xW a.kind b.kind
 have h2:=@xW a.num b.num
 have h3:=@P5 a.kind b.kind
 have h4:=@P5 a.num b.num
 split
 ·rename_i h;constructor <;> intro q <;> omega
 ·split
  ·constructor <;> intro q <;> omega
  ·constructor
   ·intro q;exact .inr ⟨by omega,.inr ⟨by omega,q⟩⟩
   ·intro q;omega
theorem pJ {a b:Val}:bf a b=0↔a=b:=by
 obtain ⟨k,n,s⟩:=a
 obtain ⟨k',n',s'⟩:=b
 rw[bf]
 have h1:=@xW k k'
 have h2:=@xW n n'
 have h3:=@rY s s'
 simp only
 split
 ·rename_i h;exact ⟨λq=>absurd q h,λq=>by injection q with q;exact absurd (h1.2 q) h⟩
 ·split
  ·rename_i h;exact ⟨λq=>absurd q h,λq=>by injection q with q q1;exact absurd (h2.2 q1) h⟩
  ·rename_i g h
   constructor
   ·intro q;rw[h1.1 (by omega),h2.1 (by omega),h3.1 q]
   ·intro q;injection q with _ _ q;exact h3.2 q
theorem mr:Total bf:=by
 refine ⟨λ_ _=>pJ,λa b=>?_,λa b d h h'=>?_⟩
 ·have g: ∀a b:Val,bf a b<0->0<bf b a:=λa b h=>by
   rw[Ib]at h
   have h1:¬bf b a<0:=by
    rw[Ib]
    intro q
    have:iq a.str b.str<0->iq b.str a.str<0->False:=λp p'=>by have:=(sw.anti _ _).1 p;omega
    rcases h with h|⟨h,h|⟨h2,h⟩⟩ <;> rcases q with q|⟨q,q|⟨q2,q⟩⟩ <;> first|omega|exact this h q
   have h2:¬bf b a=0:=by
    rw[pJ];rintro rfl
    have:=(sw.zero b.str b.str).2 rfl
    rcases h with h|⟨_,h|⟨_,h⟩⟩ <;> omega
   omega
  constructor
  ·exact g a b
  ·intro h
   by_cases q:bf a b<0
   ·exact q
   ·have h2:¬bf a b=0:=by
     rw[pJ];rintro rfl;rw[pJ.2 rfl]at h;omega
    exfalso
    have h3:¬bf b a<0:=by omega
    rw[Ib]at q h3
    rcases Int.lt_trichotomy a.kind b.kind with e|e|e
    ·exact q (.inl e)
    ·rcases Int.lt_trichotomy a.num b.num with e'|e'|e'
     ·exact q (.inr ⟨e,.inl e'⟩)
     ·by_cases c1:iq a.str b.str<0
      ·exact q (.inr ⟨e,.inr ⟨e',c1⟩⟩)
      ·by_cases c2:iq a.str b.str=0
       ·apply h2
        rw[pJ]
        obtain ⟨k,n,s⟩:=a
        obtain ⟨k',n',s'⟩:=b
        rw[rY]at c2
        simp only at e e' c2
        rw[e,e',c2]
       ·exact h3 (.inr ⟨e.symm,.inr ⟨e'.symm,sw.lt_of c1 c2⟩⟩)
     ·exact h3 (.inr ⟨e.symm,.inl e'⟩)
    ·exact h3 (.inl e)
 ·rw[Ib]at h h'⊢
  have:=sw.trans a.str b.str d.str
  rcases h with h|⟨h,h|⟨h2,h⟩⟩ <;> rcases h' with q|⟨q,q|⟨q2,q⟩⟩
  all_goals first|exact .inl (by omega)|exact .inr ⟨by omega,.inl (by omega)⟩|exact .inr ⟨by omega,.inr ⟨by omega,this h q⟩⟩
theorem dP: ∀{a b:List Val},aC a b=0↔a=b
 | [],[]=>by simp[aC]
 | [],_ :: _=>by simp[aC]
 | _ :: _,[]=>by simp[aC]
 |x :: l,y :: m=>by
  have ih:=@dP l m
  have h:=@pJ x y
  rw[aC]
  split
  ·rename_i g;exact ⟨λq=>absurd q g,λq=>by injection q with q;exact absurd (h.2 q) g⟩
  ·rename_i g;rw[ih,h.1 (by omega)];simp
theorem Ia {x y:Val}{l m:List Val}:aC (x :: l) (y :: m)<0↔bf x y<0\/(x=y/\aC l m<0):=by
 have h:=@pJ x y
 rw[aC]
 split
 ·rename_i g;exact ⟨λq=>.inl q,λq=>by rcases q with q|⟨q,_⟩;exact q;exact absurd (h.2 q) g⟩
 ·rename_i g;exact ⟨λq=>.inr ⟨h.1 (by omega),q⟩,λq=>by rcases q with q|⟨_,q⟩;omega;exact q⟩
theorem Cn: ∀{a b:List Val},aC a b<0↔0<aC b a
 | [],[]=>by simp[aC]
 | [],_ :: _=>by simp[aC]
 | _ :: _,[]=>by simp[aC]
 |x :: l,y :: m=>by
  have ih:=@Cn l m
  have h:=mr.anti x y
  have h0:=mr.zero x y
  have h1:=mr.zero y x
  rw[aC,aC]
  by_cases e:x=y
  ·subst e;rw[if_neg (by rw[mr.self];simp),if_neg (by rw[mr.self];simp)];exact ih
  ·rw[if_pos (λq=>e (h0.1 q)),if_pos (λq=>e (h1.1 q).symm)];exact h
theorem mJ: ∀{a b d:List Val},aC a b<0->aC b d<0->aC a d<0
 | _,[],[],_,h=>by simp[aC]at h
 | _,_ :: _,[],_,h=>by simp[aC]at h
 | [],_,_ :: _,_,_=>by simp[aC]
 | _ :: _,[],_ :: _,h,_=>by simp[aC]at h
 |x :: l,y :: m,z :: n,h,h'=>by
  rw[Ia]at h h'⊢
  rcases h with h|⟨rfl,h⟩
  ·rcases h' with h'|⟨rfl,h'⟩
   ·exact .inl (mr.trans _ _ _ h h')
   ·exact .inl h
  ·rcases h' with h'|⟨rfl,h'⟩
   ·exact .inl h'
   ·exact .inr ⟨rfl,mJ h h'⟩
theorem GZ:Total aC:=⟨λ_ _=>dP,λ_ _=>Cn,λ_ _ _=>mJ⟩
def cnt:List Ent->List Val->Int
 | [],_=>0
 |x :: l,r=>(if aC x.row r=0 then x.count else 0)+cnt l r
def jU (l:List Ent):Prop:=l.Pairwise λx y=>aC x.row y.row<0
def R7 (l:List Ent):Prop:= ∀x∈l,x.count≠0
theorem H8 (l m:List Ent)(r:List Val):cnt (l++m) r=cnt l r+cnt m r:=by
 induction l with
 |nil=>simp[cnt]
 |cons x l ih=>rw[List.cons_append,cnt,cnt,ih];omega
theorem kz {l:List Ent}{r:List Val}(h: ∀x∈l,aC x.row r≠0):cnt l r=0:=by
 induction l with
 |nil=>rfl
 |cons x l ih=>rw[cnt,if_neg (h x (by simp)),ih λy hy=>h y (by simp[hy])];rfl
theorem jU.tail {x:Ent}{l:List Ent}(h:jU (x :: l)):jU l:=(List.pairwise_cons.1 h).2
theorem jU.head {x:Ent}{l:List Ent}(h:jU (x :: l)): ∀y∈l,aC x.row y.row<0:=(List.pairwise_cons.1 h).1
theorem jU.filter {l:List Ent}(h:jU l)(p:Ent->Bool):jU (l.filter p):=List.Pairwise.filter p h
theorem jU.head_zero {x:Ent}{l:List Ent}(h:jU (x :: l)):cnt l x.row=0:=
 kz λy hy q=>by
  have h1:=h.head y hy
  have h2:=dP.1 q
  rw[h2,dP.2 rfl]at h1
  omega
theorem jU.mem {l:List Ent}(h:jU l){x:Ent}(hx:x∈l):cnt l x.row=x.count:=by
 induction l with
 |nil=>cases hx
 |cons y l ih=>
  rw[cnt]
  rcases List.mem_cons.1 hx with rfl|hx
  ·rw[if_pos (dP.2 rfl),h.head_zero];omega
  ·have h1:=h.head x hx
   rw[if_neg (by omega),ih h.tail hx];omega
theorem Hw: ∀{l m:List Ent},jU l->jU m->R7 l->R7 m->(∀r,cnt l r=cnt m r)->l=m
 | [],[],_,_,_,_,_=>rfl
 | [],y :: m,_,hm,_,hz,h=>by
  have:=h y.row
  rw[hm.mem (by simp),cnt]at this
  exact absurd this.symm (hz y (by simp))
 |x :: l,[],hl,_,hz,_,h=>by
  have:=h x.row
  rw[hl.mem (by simp),cnt]at this
  exact absurd this (hz x (by simp))
 |x :: l,y :: m,hl,hm,hz,hz',h=>by
  have hx:=hl.mem (x:=x) (by simp)
  have hy:=hm.mem (x:=y) (by simp)
  have n1:¬aC x.row y.row<0:=λq=>by
   have:cnt (y :: m) x.row=0:=kz λz hz0 e=>by
    have e:=dP.1 e
    rcases List.mem_cons.1 hz0 with rfl|hz0
    ·rw[e,dP.2 rfl]at q;omega
    ·have:=mJ q (hm.head z hz0)
     rw[e,dP.2 rfl]at this;omega
   rw[<-h,hx]at this
   exact hz x (by simp) this
  have n2:¬aC y.row x.row<0:=λq=>by
   have:cnt (x :: l) y.row=0:=kz λz hz0 e=>by
    have e:=dP.1 e
    rcases List.mem_cons.1 hz0 with rfl|hz0
    ·rw[e,dP.2 rfl]at q;omega
    ·have:=mJ q (hl.head z hz0)
     rw[e,dP.2 rfl]at this;omega
   rw[h,hy]at this
   exact hz' y (by simp) this
  have e:x.row=y.row:=by
   by_cases q:aC x.row y.row=0
   ·exact dP.1 q
   ·exact absurd (GZ.lt_of n1 q) n2
  have e2:x.count=y.count:=by rw[<-hx,<-hy,h,e]
  have e3:x=y:=by
   obtain ⟨a,b⟩:=x
   obtain ⟨c,d⟩:=y
   simp only at e e2
   rw[e,e2]
  subst e3
  rw[Hw hl.tail hm.tail (λz q=>hz z (by simp[q])) (λz q=>hz' z (by simp[q])) λr=>by
   have:=h r
   rw[cnt,cnt]at this
   omega]
theorem fD {P:List Val->Prop}: ∀f xs ys,(∀x∈xs,P x.row)->(∀x∈ys,P x.row)-> ∀x∈iA f xs ys,P x.row
 | 0,_,_=>λ_ _ x hx=>by simp[iA]at hx
 |f+1,[],[]=>λ_ _ x hx=>by simp[iA]at hx
 |f+1,[],y :: ys=>λh h' x hx=>by
  rw[iA]at hx
  rcases List.mem_cons.1 hx with rfl|hx
  ·exact h' _ (by simp)
  ·exact fD f [] ys h (λz hz=>h' z (by simp[hz])) x hx
 |f+1,x :: xs,[]=>λh h' z hx=>by
  rw[iA]at hx
  rcases List.mem_cons.1 hx with rfl|hx
  ·exact h _ (by simp)
  ·exact fD f xs [] (λz hz=>h z (by simp[hz])) h' z hx
 |f+1,x :: xs,y :: ys=>λh h' z hx=>by
  rw[iA]at hx
  split at hx
  ·rcases List.mem_cons.1 hx with rfl|hx
   ·exact h _ (by simp)
   ·exact fD f xs (y :: ys) (λz hz=>h z (by simp[hz])) h' z hx
  ·split at hx
   ·rcases List.mem_cons.1 hx with rfl|hx
    ·exact h' _ (by simp)
    ·exact fD f (x :: xs) ys h (λz hz=>h' z (by simp[hz])) z hx
   ·rcases List.mem_cons.1 hx with rfl|hx
    ·exact h x (by simp)
    ·exact fD f xs ys (λz hz=>h z (by simp[hz])) (λz hz=>h' z (by simp[hz])) z hx
theorem kY: ∀f xs ys,xs.length+ys.length<=f-> ∀r,cnt (iA f xs ys) r=cnt xs r+cnt ys r
 | 0,xs,ys=>λh r=>by
  have h1:xs=[]:=List.length_eq_zero_iff.1 (by omega)
  have h2:ys=[]:=List.length_eq_zero_iff.1 (by omega)
  subst h1 h2;rfl
 |f+1,[],[]=>λh r=>rfl
 |f+1,[],y :: ys=>λh r=>by
  simp only[iA,cnt,kY f [] ys (by simp at h⊢;omega) r];omega
 |f+1,x :: xs,[]=>λh r=>by
  simp only[iA,cnt,kY f xs [] (by simp at h⊢;omega) r];omega
 |f+1,x :: xs,y :: ys=>λh r=>by
  simp only[List.length_cons]at h
  rw[iA]
  split
  ·rw[cnt,kY f xs (y :: ys) (by simp;omega),cnt,cnt];omega
  ·split
   ·rw[cnt,kY f (x :: xs) ys (by simp;omega),cnt,cnt];omega
   ·have e:x.row=y.row:=dP.1 (by omega)
    rw[cnt,kY f xs ys (by omega),cnt,cnt,e]
    simp only
    split <;> omega
theorem kX: ∀f xs ys,jU xs->jU ys->jU (iA f xs ys)
 | 0,_,_=>λ_ _=>List.Pairwise.nil
 |f+1,[],[]=>λ_ _=>List.Pairwise.nil
 |f+1,[],y :: ys=>λh h'=>by
  rw[iA]
  exact List.pairwise_cons.2 ⟨fD (P:=λr=>aC y.row r<0) f [] ys (λz hz=>by cases hz) h'.head,kX f [] ys h h'.tail⟩
 |f+1,x :: xs,[]=>λh h'=>by
  rw[iA]
  exact List.pairwise_cons.2 ⟨fD (P:=λr=>aC x.row r<0) f xs [] h.head (λz hz=>by cases hz),kX f xs [] h.tail h'⟩
 |f+1,x :: xs,y :: ys=>λh h'=>by
  rw[iA]
  split
  ·rename_i q
   exact List.pairwise_cons.2 ⟨fD (P:=λr=>aC x.row r<0) f xs (y :: ys) h.head (λz hz=>by
    rcases List.mem_cons.1 hz with rfl|hz
    ·exact q
    ·exact mJ q (h'.head z hz)),kX f xs (y :: ys) h.tail h'⟩
  ·split
   ·rename_i _ q
    have q:=Cn.2 q
    exact List.pairwise_cons.2 ⟨fD (P:=λr=>aC y.row r<0) f (x :: xs) ys (λz hz=>by
     rcases List.mem_cons.1 hz with rfl|hz
     ·exact q
     ·exact mJ q (h.head z hz)) h'.head,kX f (x :: xs) ys h h'.tail⟩
   ·have e:x.row=y.row:=dP.1 (by omega)
    exact List.pairwise_cons.2 ⟨fD (P:=λr=>aC x.row r<0) f xs ys h.head (λz hz=>by rw[e];exact h'.head z hz),kX f xs ys h.tail h'.tail⟩
theorem Gn (xs ys:List Ent)(r:List Val):cnt (Gl xs ys) r=cnt xs r+cnt ys r:=kY _ _ _ (Nat.le_refl _) r
theorem Gm {xs ys:List Ent}(h:jU xs)(h':jU ys):jU (Gl xs ys):=kX _ _ _ h h'
theorem wB: ∀f (l:List Ent) (r:List Val),cnt (uZ f l) r=cnt l r
 | 0,l,r=>rfl
 |f+1,l,r=>by
  rw[uZ]
  split
  ·rfl
  ·rw[Gn,wB f,wB f,<-H8,List.take_append_drop]
theorem wz: ∀f (l:List Ent),l.length<=f->jU (uZ f l)
 | 0,l,h=>by
  have h1:l=[]:=List.length_eq_zero_iff.1 (by omega)
  subst h1;exact List.Pairwise.nil
 |f+1,l,h=>by
  rw[uZ]
  split
  ·rename_i q
   match l,q with
   | [],_=>exact List.Pairwise.nil
   | [x],_=>exact List.pairwise_singleton _ _
   | _ :: _ :: _,q=>exact absurd q (by simp)
  ·exact Gm (wz f _ (by rw[List.length_take];omega)) (wz f _ (by rw[List.length_drop];omega))
theorem wD (l:List Ent)(r:List Val):cnt (xh l) r=cnt l r:=wB _ _ _
theorem wC (l:List Ent):jU (xh l):=wz _ _ (Nat.le_refl _)
theorem wh (l:List Ent)(r:List Val):cnt (iZ l) r=cnt l r:=by
 induction l with
 |nil=>rfl
 |cons x l ih=>
  rw[iZ]at ih⊢
  by_cases q:x.count=0
  ·rw[List.filter_cons_of_neg (by simp[q]),ih,cnt,q];simp
  ·rw[List.filter_cons_of_pos (by simp[q]),cnt,ih,cnt]
theorem vZ {l:List Ent}(h:jU l):jU (iZ l):=h.filter _
theorem oH (l:List Ent):R7 (iZ l):=λx hx=>by
 have:=(List.mem_filter.1 hx).2
 simpa using this
theorem Jw {l:List Ent}: ∀x∈iZ l,x∈l:=λx hx=>(List.mem_filter.1 hx).1
theorem rO: ∀(l:List Ent) (m:Nat),jG m (iZ l)=jG m l
 | [],m=>rfl
 |x :: l,m=>by
  have ih:=rO l
  by_cases q:x.count=0
  ·rw[show iZ (x :: l)=iZ l from List.filter_cons_of_neg (by simp[q]),ih,jG,if_pos q]
  ·rw[show iZ (x :: l)=x :: iZ l from List.filter_cons_of_pos (by simp[q]),jG,jG,if_neg q,if_neg q,ih]
def FX (xs:List Ent):Int×List Ent:=if jG 0 (xh xs)=true then (2,[]) else (0,iZ (xh xs))
theorem tZ: ∀(l:List Ent) (m:Nat),R7 l->m<=4096->(jG m l=false↔(∀x∈l, -65536<=x.count/\x.count<=65536)/\m+l.length<=4096)
 | [],m,_,hm=>by simp[jG];omega
 |x :: l,m,h,hm=>by
  have hx:x.count≠0:=h x (by simp)
  rw[jG,if_neg hx]
  by_cases q:m=4096
  ·subst q;simp
  ·have ih:=tZ l (m+1) (λy hy=>h y (by simp[hy])) (by omega)
   simp only[Bool.or_eq_false_iff,decide_eq_false_iff_not,ih,List.mem_cons,List.length_cons,forall_eq_or_imp]
   constructor
   ·rintro ⟨⟨⟨a,b⟩,_⟩,c,d⟩;exact ⟨⟨⟨by omega,by omega⟩,c⟩,by omega⟩
   ·rintro ⟨⟨⟨a,b⟩,c⟩,d⟩;exact ⟨⟨⟨by omega,by omega⟩,q⟩,c,by omega⟩
theorem Cw {α:Type}{f:Nat->α->Int}: ∀{l:List α} {k:Nat},aj f k l=0↔ ∀j x,l[j]?=some x->f (k+j) x=0
 | [],k=>by simp[aj]
 |y :: l,k=>by
  have ih:=@Cw α f l (k+1)
  rw[aj]
  by_cases hy:f k y=0
  ·rw[if_neg (by simpa using hy),ih]
   constructor
   ·intro h j x hx
    cases j with
    |zero=>simp at hx;subst hx;exact hy
    |succ j=>have:=h j x (by simpa using hx);rw[show k+(j+1)=k+1+j by omega];exact this
   ·intro h j x hx
    have:=h (j+1) x (by simpa using hx)
    rw[show k+(j+1)=k+1+j by omega]at this;exact this
  ·rw[if_pos hy]
   constructor
   ·intro h;exact absurd h hy
   ·intro h;exact absurd (h 0 y (by simp)) hy
theorem pu {b:List Ent}{i:Nat}{x:Ent}:dO b i x=0↔dw x=0/\x.count≠0/\(0<i->aC (b.getD (i-1) default).row x.row<0):=by
 rw[dO]
 by_cases h1:dw x=0
 ·rw[if_neg (by simpa using h1)]
  by_cases h2:x.count=0
  ·simp[h1,h2]
  ·rw[if_neg h2]
   by_cases h3:0<i/\0<=aC (b.getD (i-1) default).row x.row
   ·rw[if_pos h3]
    constructor
    ·intro q;omega
    ·rintro ⟨_,_,q⟩;have:=q h3.1;omega
   ·rw[if_neg h3]
    simp only[true_iff]
    exact ⟨h1,h2,λq=>by
     by_cases g:aC (b.getD (i-1) default).row x.row<0
     ·exact g
     ·exact absurd ⟨q,by omega⟩ h3⟩
 ·rw[if_pos h1];simp[h1]
theorem uz: ∀{l:List Ent},(∀j x y,l[j]?=some x->l[j+1]?=some y->aC x.row y.row<0)->jU l
 | [],_=>List.Pairwise.nil
 | [x],_=>List.pairwise_singleton _ _
 |x :: y :: l,h=>by
  have h1:=h 0 x y rfl rfl
  have ih:jU (y :: l):=uz λj a b ha hb=>h (j+1) a b (by simpa using ha) (by simpa using hb)
  refine List.pairwise_cons.2 ⟨λz hz=>?_,ih⟩
  rcases List.mem_cons.1 hz with rfl|hz
  ·exact h1
  ·exact mJ h1 (ih.head z hz)
theorem kR {b:List Ent}:aX b=0↔b.length<=4096/\(∀x∈b,dw x=0/\x.count≠0)/\jU b:=by
 rw[aX]
 by_cases hl:4096<b.length
 ·rw[if_pos hl]
  constructor
  ·intro q;omega
  ·rintro ⟨q,_⟩;omega
 ·rw[if_neg hl,Cw]
  have hl':b.length<=4096:=by omega
  constructor
  ·intro h
   refine ⟨hl',λx hx=>?_,uz λj x y hx hy=>?_⟩
   ·obtain ⟨j,hj⟩:=List.mem_iff_getElem?.1 hx
    have:=pu.1 (h j x hj)
    exact ⟨this.1,this.2.1⟩
   ·have:=(pu.1 (h (j+1) y hy)).2.2 (by omega)
    rw[show (0+(j+1)-1)=j by omega,List.getD_eq_getElem?_getD,hx]at this
    exact this
  ·rintro ⟨_,h1,h2⟩ j x hx
   have hm:=List.mem_iff_getElem?.2 ⟨j,hx⟩
   refine pu.2 ⟨(h1 x hm).1,(h1 x hm).2,λhj=>?_⟩
   obtain ⟨hlt,he⟩:=List.getElem?_eq_some_iff.1 hx
   have:=List.pairwise_iff_getElem.1 h2 (0+j-1) j (by omega) hlt (by omega)
   rw[he]at this
   rw[List.getD_eq_getElem?_getD,List.getElem?_eq_getElem (by omega)]
   exact this
theorem Ou {x:Ent}(h:dw x=0): -65536<=x.count/\x.count<=65536/\x.row.length<=12:=by
 rw[dw]at h
 split at h
 ·omega
 ·omega
theorem rR {P:List Val->Prop}: ∀f (l:List Ent),(∀x∈l,P x.row)-> ∀x∈uZ f l,P x.row
 | 0,l,h=>h
 |f+1,l,h=>by
  rw[uZ]
  split
  ·exact h
  ·exact fD _ _ _ (rR f _ λx hx=>h x (List.mem_of_mem_take hx)) (rR f _ λx hx=>h x (List.mem_of_mem_drop hx))
theorem IR {P:List Val->Prop}{xs:List Ent}(h: ∀x∈xs,P x.row): ∀x∈(FX xs).2,P x.row:=by
 rw[FX]
 split
 ·intro x hx;cases hx
 ·intro x hx;exact rR _ xs h x (Jw x hx)
theorem yP {x:Ent}:dw x=0↔(-65536<=x.count/\x.count<=65536)/\x.row.length<=12/\ ∀v∈x.row,valid v=true:=by
 rw[dw]
 split
 ·rename_i h
  constructor
  ·intro q;omega
  ·rintro ⟨q,q1,_⟩;omega
 ·rename_i h
  rw[Cw]
  constructor
  ·intro q
   refine ⟨by omega,by omega,λv hv=>?_⟩
   obtain ⟨j,hj⟩:=List.mem_iff_getElem?.1 hv
   have:=q j v hj
   split at this
   ·assumption
   ·omega
  ·rintro ⟨_,_,q⟩ j v hj
   rw[if_pos (q v (List.mem_iff_getElem?.2 ⟨j,hj⟩))]
theorem N9 {xs:List Ent}(h: ∀x∈xs,dw x=0):aX (FX xs).2=0:=by
 have hr:=IR (P:=λr=>r.length<=12/\ ∀v∈r,valid v=true) (xs:=xs) λx hx=>(yP.1 (h x hx)).2
 rw[FX]at hr⊢
 split
 ·rfl
 ·rename_i q
  rw[if_neg q]at hr
  have q:jG 0 (iZ (xh xs))=false:=by rw[rO];simpa using q
  obtain ⟨h1,h2⟩:=(tZ _ 0 (oH _) (by omega)).1 q
  exact kR.2 ⟨by simpa using h2,λx hx=>⟨yP.2 ⟨h1 x hx,hr x hx⟩,oH _ x hx⟩,vZ (wC _)⟩
def cntF:List Ent->List Val->Int
 | [],_=>0
 |x :: l,r=>if aC x.row r=0 then x.count else cntF l r
theorem jU.cntF {l:List Ent}(h:jU l)(r:List Val):Proofs.YtggejcekmehocaaGreatDoor.cntF l r=cnt l r:=by
 induction l with
 |nil=>rfl
 |cons x l ih=>
  rw[Proofs.YtggejcekmehocaaGreatDoor.cntF,cnt]
  by_cases q:aC x.row r=0
  ·rw[if_pos q,if_pos q]
   have:=h.head_zero
   rw[dP.1 q]at this
   omega
  ·rw[if_neg q,if_neg q,ih h.tail];omega
end Go.Proofs.YtggejcekmehocaaGreatDoor
