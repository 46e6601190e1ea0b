/-
  How data lies in memory: a class 'Rep' (what cells of a world a datum reads as), with its instances for ints, bools, strings, slices and the structs of package api; its frame; and the road from the claim's own reading ('DataW.trod') to it. No program is in sight. Plain functions, no program in sight: the values, columns, rows, bags and relations of chapters 1, 5, 6 and 19, as both texts compute them. Plain functions, no program in sight: expressions (chapter 8), their types and values (chapter 9), zones and days (chapter 4), checked arithmetic (chapter 2), as both texts compute them. Plain functions, no program in sight: merging, sorting and normalizing lists of entries (chapter 6), as the reference does it. Plain law: the orders of strings, values and rows are total orders. No program is in sight. Plain law of bags: a bag is told by its counts; merging and sorting add counts; Normalize's answer depends on the counts alone. No program is in sight. Plain: the count that the first equal row has.
-/
import Derived.WalkKit
import Derived.Deep.Slices
import Derived.ChangeSame
namespace Go.Proofs.YtggejcekmehocaaGreatDoor
set_option linter.unusedVariables false
set_option linter.unusedSimpArgs false
open Go.RowKit Go.ChangeShapes Go.WideShapes
def Same (S:Nat->Prop)(w w':World):Prop:= ∀k,S k->w'.heap[k]?=w.heap[k]?
theorem Same.refl (S:Nat->Prop)(w:World):Same S w w:=λ_ _=>rfl
theorem Same.trans {S:Nat->Prop}{a b c:World}(h:Same S a b)(h':Same S b c):Same S a c:=λk hk=>(h' k hk).trans (h k hk)
theorem Same.sub {S T:Nat->Prop}{a b:World}(h:Same T a b)(hs: ∀k,S k->T k):Same S a b:=λk hk=>h k (hs k hk)
theorem Same.below {B:Nat}{w w':World}(h:Below B w w'):Same (· < B) w w':=λk hk=>h.block k hk
theorem Same.cell {S:Nat->Prop}{w w':World}(h:Same S w w'){a:Addr}(ha:S a.block):w'.cell? a=w.cell? a:=World.cell?_of_block (w:=w) (h _ ha)
class Rep (α:Type) where
 size:Nat
 rd:World->(Nat->Prop)->List Value->α->Prop
 len: ∀{w:World} {S:Nat->Prop} {cs:List Value} {a:α},rd w S cs a->cs.length=size
 keep: ∀{w w':World} {S:Nat->Prop} {cs:List Value} {a:α},Same S w w'->rd w S cs a->rd w' S cs a
 mono: ∀{w:World} {S T:Nat->Prop} {cs:List Value} {a:α},(∀k,S k->T k)->rd w S cs a->rd w T cs a
def I64 (n:Int):Prop:= -9223372036854775808<=n/\n<=9223372036854775807
instance:Rep Int where
 size:=1
 rd _ _ cs n:=cs=[.int .i64 n]/\I64 n
 len h:=by rw[h.1];rfl
 keep _ h:=h
 mono _ h:=h
instance:Rep Bool where
 size:=1
 rd _ _ cs b:=cs=[.bool b]
 len h:=by rw[h];rfl
 keep _ h:=h
 mono _ h:=h
instance:Rep ByteArray where
 size:=1
 rd _ _ cs s:=cs=[.string s]/\s.size<=9223372036854775807
 len h:=by rw[h.1];rfl
 keep _ h:=h
 mono _ h:=h
def At {α:Type}[Rep α](w:World)(S:Nat->Prop)(b off:Nat)(a:α):Prop:=
 ∃cs:List Value,Rep.rd w S cs a/\ ∀j,(hj:j<cs.length)->w.cell? ⟨b,off+j,none⟩=some cs[j]
theorem At.keep {α:Type}[Rep α]{w w':World}{S:Nat->Prop}{b off:Nat}{a:α}(hb:S b)(hs:Same S w w')(h:At w S b off a):At w' S b off a:=by
 obtain ⟨cs,h1,h2⟩:=h
 exact ⟨cs,Rep.keep hs h1,λj hj=>(hs.cell (a:=⟨b,off+j,none⟩) hb).trans (h2 j hj)⟩
theorem At.mono {α:Type}[Rep α]{w:World}{S T:Nat->Prop}{b off:Nat}{a:α}(hs: ∀k,S k->T k)(h:At w S b off a):At w T b off a:=by
 obtain ⟨cs,h1,h2⟩:=h
 exact ⟨cs,Rep.mono hs h1,h2⟩
def Sl {α:Type}[Rep α](w:World)(S:Nat->Prop)(A:Option Addr)(n c:Nat)(xs:List α):Prop:=
 xs.length=n/\n<=c/\c<=9223372036854775807/\(A=none->c=0)/\
  (0<n-> ∃b off,A=some ⟨b,off,none⟩/\S b/\ ∀i,(hi:i<xs.length)->At w S b (off+i*Rep.size α) xs[i])
section
variable {α:Type}[Rep α]{w w':World}{S T:Nat->Prop}{A:Option Addr}{n c:Nat}{xs:List α}
theorem Sl.keep (hs:Same S w w')(h:Sl w S A n c xs):Sl w' S A n c xs:=by
 refine ⟨h.1,h.2.1,h.2.2.1,h.2.2.2.1,λhn=>?_⟩
 obtain ⟨b,off,e,hb,hi⟩:=h.2.2.2.2 hn
 exact ⟨b,off,e,hb,λi h'=>(hi i h').keep hb hs⟩
theorem Sl.mono (hs: ∀k,S k->T k)(h:Sl w S A n c xs):Sl w T A n c xs:=by
 refine ⟨h.1,h.2.1,h.2.2.1,h.2.2.2.1,λhn=>?_⟩
 obtain ⟨b,off,e,hb,hi⟩:=h.2.2.2.2 hn
 exact ⟨b,off,e,hs _ hb,λi h'=>(hi i h').mono hs⟩
theorem Sl.len (h:Sl w S A n c xs):xs.length=n:=h.1
theorem Sl.nil_:Sl (α:=α) w S none 0 0 []:=⟨rfl,Nat.le_refl _,by omega,λ_=>rfl,λh=>absurd h (by omega)⟩
theorem Sl.empty (h:c<=9223372036854775807)(hA:A=none->c=0):Sl (α:=α) w S A 0 c []:=⟨rfl,by omega,h,hA,λh=>absurd h (by omega)⟩
end
instance {α:Type} [Rep α]:Rep (List α) where
 size:=1
 rd w S cs xs:= ∃A n c,cs=[.slice A n c]/\Sl w S A n c xs
 len h:=by obtain ⟨A,n,c,rfl,_⟩:=h;rfl
 keep hs h:=by obtain ⟨A,n,c,rfl,h⟩:=h;exact ⟨A,n,c,rfl,h.keep hs⟩
 mono hs h:=by obtain ⟨A,n,c,rfl,h⟩:=h;exact ⟨A,n,c,rfl,h.mono hs⟩
def Opens (P:Program)(t:TypeId)(α:Type)[Rep α]:Prop:=
 ∀(H:Type) (enc:TypeId×Value->H) (w:World) (spare:Nat->Bool) (held:Bool) (fuel:Nat) (cs:List Value) (y:DataW H×List MemPlace),
  DataW.trod enc P w 0 spare held fuel t cs=some y-> ∃a:α,Rep.rd w (· < w.heap.size) cs a
section
variable {P:Program}{t e:TypeId}
theorem wf_i64 {n:Int}(h:(Lit.int .i64 n).wf=true):I64 n:=by
 simp[Lit.wf,IntKind.min,IntKind.max,IntKind.signed,IntKind.bits]at h
 unfold I64
 omega
theorem opens_int (h:P.underlying t=some (.int .i64)):Opens P t Int:=λ_ _ _ _ _ _ _ _ hy=>by
 obtain ⟨n,hc,_,hw⟩:=DataW.trod_int h hy
 exact ⟨n,hc,wf_i64 hw⟩
theorem lt_of_cell {w:World}{a:Addr}{v:Value}(h:w.cell? a=some v):a.block<w.heap.size:=block_lt_of_cell h
theorem opens_slice {α:Type}[Rep α][Inhabited α](h:P.underlying t=some (.slice e))(hsz:P.cellsOf e=Rep.size α)(hpos:0<Rep.size α)(he:Opens P e α):Opens P t (List α):=λH enc w spare held fuel cs y hy=>by
 rcases Go.Deep.open_slice h hy with ⟨hc,_⟩|⟨a,len,cap,m,n,D,Pl,hcs,hb,hl,hm,hmm,hx,hi⟩
 ·exact ⟨[],none,0,0,hc,Sl.nil_⟩
 ·have hmax:cap<=9223372036854775807:=by unfold maxLen at hm;omega
  have hm':len<=m:=by rw[hmm];split <;> omega
  have H1: ∀i,i<len-> ∃x:α,∃cs',w.cells? 0 (a.add (i*P.cellsOf e)) (P.cellsOf e)=some cs'/\Rep.rd w (· < w.heap.size) cs' x:=λi hil=>by
   obtain ⟨cs',hc',ht⟩:=hi i (by omega)
   obtain ⟨x,hx⟩:=he H enc w spare held n cs' _ ht
   exact ⟨x,cs',hc',hx⟩
  obtain ⟨f,hf⟩:=Go.Deep.choose_lt H1
  refine ⟨(List.range len).map f,some a,len,cap,hcs,by simp,hl,hmax,(λh=>by cases h),λhn=>?_⟩
  have hspot:a.spot=none:=by
   obtain ⟨cs',hc',hr⟩:=hf 0 hn
   obtain ⟨_,hlen,hcell⟩:=World.cells?_some hc'
   have h0:=hcell 0 (by omega)
   rw[List.getElem?_eq_getElem (by omega)]at h0
   have:=World.cell?_spot h0
   simpa[Addr.add] using this
  obtain ⟨b,off,spot⟩:=a
  obtain rfl:spot=none:=hspot
  have hblk:b<w.heap.size:=by
   obtain ⟨cs',hc',hr⟩:=hf 0 hn
   obtain ⟨_,hlen,hcell⟩:=World.cells?_some hc'
   have h0:=hcell 0 (by omega)
   rw[List.getElem?_eq_getElem (by omega)]at h0
   have:=lt_of_cell h0
   simpa[Addr.add] using this
  refine ⟨b,off,rfl,hblk,λi hi'=>?_⟩
  have hil:i<len:=by simpa using hi'
  obtain ⟨cs',hc',hr⟩:=hf i hil
  obtain ⟨_,hlen,hcell⟩:=World.cells?_some hc'
  refine ⟨cs',by simpa using hr,λj hj=>?_⟩
  have:=hcell j (by omega)
  rw[List.getElem?_eq_getElem hj]at this
  rw[<-this]
  congr 1
  unfold Addr.add
  by_cases h1:i*P.cellsOf e=0 <;> by_cases h2:j=0 <;> simp_all[Nat.add_assoc]
end
structure Val where
 kind:Int
 num:Int
 str:ByteArray
structure Col where
 name:ByteArray
 kind:Int
 nullable:Bool
structure Ent where
 row:List Val
 count:Int
structure Rel where
 name:ByteArray
 columns:List Col
 keys:List (List ByteArray)
 rows:List Ent
structure Shift where
 at_:Int
 offset:Int
structure Zone where
 name:ByteArray
 offset:Int
 shifts:List Shift
structure Node where
 op:Int
 value:Val
 name:ByteArray
 arity:Int
instance:Inhabited Val:=⟨⟨0,0,ByteArray.empty⟩⟩
instance:Inhabited Col:=⟨⟨ByteArray.empty,0,false⟩⟩
instance:Inhabited Ent:=⟨⟨[],0⟩⟩
instance:Inhabited Shift:=⟨⟨0,0⟩⟩
instance:Inhabited Zone:=⟨⟨ByteArray.empty,0,[]⟩⟩
instance:Inhabited Node:=⟨⟨0,default,ByteArray.empty,0⟩⟩
def Str (s:ByteArray):Prop:=s.size<=9223372036854775807
def Val.ok (v:Val):Prop:=I64 v.kind/\I64 v.num/\Str v.str
def Col.ok (c:Col):Prop:=Str c.name/\I64 c.kind
def Node.ok (n:Node):Prop:=I64 n.op/\n.value.ok/\Str n.name/\I64 n.arity
def Val.cells (v:Val):List Value:=[.int .i64 v.kind,.int .i64 v.num,.string v.str]
def Col.cells (c:Col):List Value:=[.string c.name,.int .i64 c.kind,.bool c.nullable]
def Shift.cells (s:Shift):List Value:=[.int .i64 s.at_,.int .i64 s.offset]
def Node.cells (n:Node):List Value:=[.int .i64 n.op,.int .i64 n.value.kind,.int .i64 n.value.num,.string n.value.str,.string n.name,.int .i64 n.arity]
instance:Rep Val where
 size:=3
 rd _ _ cs v:=cs=v.cells/\v.ok
 len h:=by rw[h.1];rfl
 keep _ h:=h
 mono _ h:=h
instance:Rep Col where
 size:=3
 rd _ _ cs v:=cs=v.cells/\v.ok
 len h:=by rw[h.1];rfl
 keep _ h:=h
 mono _ h:=h
instance:Rep Shift where
 size:=2
 rd _ _ cs v:=cs=v.cells/\I64 v.at_/\I64 v.offset
 len h:=by rw[h.1];rfl
 keep _ h:=h
 mono _ h:=h
instance:Rep Node where
 size:=6
 rd _ _ cs v:=cs=v.cells/\v.ok
 len h:=by rw[h.1];rfl
 keep _ h:=h
 mono _ h:=h
instance:Rep Ent where
 size:=2
 rd w S cs x:= ∃A n c,cs=[.slice A n c,.int .i64 x.count]/\Sl w S A n c x.row/\I64 x.count
 len h:=by obtain ⟨A,n,c,rfl,_⟩:=h;rfl
 keep hs h:=by obtain ⟨A,n,c,rfl,h,hc⟩:=h;exact ⟨A,n,c,rfl,h.keep hs,hc⟩
 mono hs h:=by obtain ⟨A,n,c,rfl,h,hc⟩:=h;exact ⟨A,n,c,rfl,h.mono hs,hc⟩
instance:Rep Zone where
 size:=3
 rd w S cs x:= ∃A n c,cs=[.string x.name,.int .i64 x.offset,.slice A n c]/\Sl w S A n c x.shifts/\Str x.name/\I64 x.offset
 len h:=by obtain ⟨A,n,c,rfl,_⟩:=h;rfl
 keep hs h:=by obtain ⟨A,n,c,rfl,h,hc⟩:=h;exact ⟨A,n,c,rfl,h.keep hs,hc⟩
 mono hs h:=by obtain ⟨A,n,c,rfl,h,hc⟩:=h;exact ⟨A,n,c,rfl,h.mono hs,hc⟩
instance:Rep Rel where
 size:=4
 rd w S cs x:= ∃A n c A' n' c' A'' n'' c'',cs=[.string x.name,.slice A n c,.slice A' n' c',.slice A'' n'' c'']/\Sl w S A n c x.columns/\Sl w S A' n' c' x.keys/\Sl w S A'' n'' c'' x.rows/\Str x.name
 len h:=by obtain ⟨_,_,_,_,_,_,_,_,_,rfl,_⟩:=h;rfl
 keep hs h:=by obtain ⟨A,n,c,A',n',c',A'',n'',c'',rfl,h1,h2,h3,h4⟩:=h;exact ⟨A,n,c,A',n',c',A'',n'',c'',rfl,h1.keep hs,h2.keep hs,h3.keep hs,h4⟩
 mono hs h:=by obtain ⟨A,n,c,A',n',c',A'',n'',c'',rfl,h1,h2,h3,h4⟩:=h;exact ⟨A,n,c,A',n',c',A'',n'',c'',rfl,h1.mono hs,h2.mono hs,h3.mono hs,h4⟩
section
variable {P:Program}{t:TypeId}
variable {f0 f1 f2 f3:Field}
end
def cmpInt (a b:Int):Int:=if a<b then -1 else if b<a then 1 else 0
def cmpStr (a b:ByteArray):Int:=if Op.bytesLess a.toList b.toList=true then -1 else if a.toList=b.toList then 0 else 1
def cmpVal (a b:Val):Int:=if cmpInt a.kind b.kind≠0 then cmpInt a.kind b.kind else if cmpInt a.num b.num≠0 then cmpInt a.num b.num else cmpStr a.str b.str
def cmpRows:List Val->List Val->Int
 | [],[]=>0
 | [],_ :: _=> -1
 | _ :: _,[]=>1
 |a :: l,b :: m=>if cmpVal a b≠0 then cmpVal a b else cmpRows l m
def noStr (s:ByteArray):Bool:=s.toList.isEmpty
def valid (v:Val):Bool:=
 if v.kind=0 then (v.num==0)&&noStr v.str
 else if v.kind=1 then noStr v.str&&(v.num==0 || v.num==1)
 else if v.kind=2 then noStr v.str&&(decide (-1073741824<=v.num)&&decide (v.num<=1073741824))
 else if v.kind=3 then (v.num==0)&&decide (v.str.size<=64)
 else if v.kind=4 then noStr v.str&&(decide (0<=v.num)&&decide (v.num<=575999999))
 else false
def byteAt (s:ByteArray)(i:Nat):Nat:=(s.data.toList.getD i 0).toNat
def nameOk (c:Nat)(i:Nat):Bool:=(decide (97<=c)&&decide (c<=122)) || (decide (0<i)&&(decide (c=95) || (decide (48<=c)&&decide (c<=57))))
def nameFrom (s:ByteArray):Nat->Nat->Bool
 | 0,_=>true
 |b+1,i=>nameOk (byteAt s i) i&&nameFrom s b (i+1)
def isName (s:ByteArray):Bool:=decide (s.size<=24)&&(nameFrom s s.size 0&&decide (0<s.size))
def indexFrom (name:ByteArray):Nat->List Col->Int
 | _,[]=> -1
 |k,c :: l=>if c.name.toList==name.toList then k else indexFrom name (k+1) l
def index (cols:List Col)(name:ByteArray):Int:=indexFrom name 0 cols
def colErr (cols:List Col)(i:Nat)(c:Col):Int:=
 if isName c.name=false then 4 else if c.kind<1\/4<c.kind then 7 else if index cols c.name<i then 6 else 0
def firstErr {α:Type}(f:Nat->α->Int):Nat->List α->Int
 | _,[]=>0
 |k,x :: l=>if f k x≠0 then f k x else firstErr f (k+1) l
def colsErr (cols:List Col):Int:=if cols.length<1\/12<cols.length then 2 else firstErr (colErr cols) 0 cols
def cellErr (c:Col)(v:Val):Int:=
 if valid v=false then 8 else if (v.kind=0/\c.nullable=false)\/(v.kind≠0/\v.kind≠c.kind) then 7 else 0
def rowErr (cols:List Col)(row:List Val):Int:=
 if row.length≠cols.length then 8 else firstErr (λi v=>cellErr (cols.getD i default) v) 0 row
def entErr (x:Ent):Int:=
 if 12<x.row.length\/x.count < -65536\/65536<x.count then 2 else firstErr (λ_ v=>if valid v then 0 else 8) 0 x.row
def bagErr1 (b:List Ent)(i:Nat)(x:Ent):Int:=
 if entErr x≠0 then entErr x else if x.count=0 then 8 else if 0<i/\0<=cmpRows (b.getD (i-1) default).row x.row then 14 else 0
def bagErr (b:List Ent):Int:=if 4096<b.length then 2 else firstErr (bagErr1 b) 0 b
def isTable (b:List Ent):Bool:=bagErr b==0&&b.all λx=>decide (0<=x.count)
def offOk (n:Int):Bool:=decide (-840<=n)&&decide (n<=840)
def shiftErr (l:List Shift)(i:Nat)(s:Shift):Int:=
 if s.at_<1\/575999999<s.at_\/offOk s.offset=false then 1 else if 0<i/\s.at_<=((l[i-1]?).map Shift.at_).getD 0 then 14 else 0
def firstShift (l:List Shift):Nat->List Shift->Int
 | _,[]=>0
 |k,x :: r=>if shiftErr l k x≠0 then shiftErr l k x else firstShift l (k+1) r
def zoneErr (z:Zone):Int:=if 64<z.shifts.length then 2 else if offOk z.offset=false then 1 else firstShift z.shifts 0 z.shifts
def zonesErr (l:List Zone):Int:=firstErr (λ_ z=>zoneErr z) 0 l
def zoneFrom (name:ByteArray):Nat->List Zone->Int
 | _,[]=> -1
 |k,z :: l=>if z.name.toList==name.toList then k else zoneFrom name (k+1) l
def zoneIx (zs:List Zone)(name:ByteArray):Int:=zoneFrom name 0 zs
def zoneAt (zs:List Zone)(name:ByteArray):Zone:=if zoneIx zs name<0 then default else zs.getD (zoneIx zs name).toNat default
def localDay (t o:Int):Int:=if t+o<0 then -1 else (t+o) / 1440
def dayFrom (t:Int):List Shift->Int->Int->Int
 | [],best,o=>max best (localDay t o)
 |s :: l,best,o=>if t<s.at_ then max best (localDay t o) else dayFrom t l (max best (localDay (s.at_-1) o)) s.offset
def dayAt (z:Zone)(t:Int):Int:=dayFrom t z.shifts 0 z.offset
def dayErr (z:Zone)(t:Int):Int:=if zoneErr z≠0 then zoneErr z else if t<0\/575999999<t then 1 else 0
def dayS (z:Zone)(t:Int):Int×Int:=if dayErr z t≠0 then (0,dayErr z t) else (dayAt z t,0)
def dotFrom:List UInt8->Nat
 | []=>0
 |c :: l=>if c=46 then 0 else dotFrom l+1
def dotAt (s:ByteArray):Nat:=dotFrom s.toList
def isQual (s:ByteArray):Bool:=
 if dotAt s<s.size then isName (s.extract 0 (dotAt s))&&isName (s.extract (dotAt s+1) s.size) else isName s
def hasStr (l:List ByteArray)(s:ByteArray):Bool:=l.any λx=>x.toList==s.toList
def words:List ByteArray:=[⟨#[97,110,100]⟩,⟨#[111,114]⟩,⟨#[110,111,116]⟩,⟨#[110,117,108,108]⟩,⟨#[116,114,117,101]⟩,⟨#[102,97,108,115,101]⟩,⟨#[98,121]⟩,⟨#[115,101,108,102]⟩]
def builtins:List ByteArray:=[⟨#[105,102]⟩,⟨#[99,111,97,108,101,115,99,101]⟩,⟨#[105,115,110,117,108,108]⟩,⟨#[108,101,110,103,116,104]⟩,⟨#[100,97,121]⟩]
def isRes (s:ByteArray):Bool:=hasStr words s
def isBuilt (s:ByteArray):Bool:=hasStr builtins s
def arity (op ar:Int):Int:=
 if op=0\/op=1 then 0 else if op=2\/op=3\/op=16\/op=19\/op=20 then 1 else if op=17 then 3 else if op=21 then ar else if 4<=op/\op<=18 then 2 else -1
def zeroVal (v:Val):Bool:=v.kind==0&&v.num==0&&noStr v.str
def shaped (n:Node):Bool:=
 if n.op=0 then valid n.value&&noStr n.name&&n.arity==0
 else zeroVal n.value&&
  (if n.op=21 then isQual n.name&&!isBuilt n.name&&!isRes n.name&&(decide (0<=n.arity)&&decide (n.arity<=8))
   else n.arity==0&&(if n.op=1 then isName n.name&&!isRes n.name else if n.op=20 then isQual n.name&&!isRes n.name else noStr n.name&&decide (0<=arity n.op n.arity)))
def raise (l:List Int):Int:=l.foldl (λh x=>max h (1+x)) 1
def restOf (n:Node)(len:Nat):Nat:=len-(arity n.op n.arity).toNat
def exprLoop:List Int->List Node->Int
 |st,[]=>if st.length≠1 then 8 else 0
 |st,n :: l=>
  if shaped n=false\/(st.length:Int)<arity n.op n.arity then 8
  else if 64<raise (st.drop (restOf n st.length)) then 2
  else exprLoop (st.take (restOf n st.length)++[raise (st.drop (restOf n st.length))]) l
def exprErr (e:List Node):Int:=if 256<e.length then 2 else exprLoop [] e
structure Kd where
 kind:Int
 null:Bool
instance:Inhabited Kd:=⟨⟨0,false⟩⟩
def fits (x:Kd)(k:Int):Bool:=x.kind==k || x.kind==0
def common (a b:Kd):Int×Bool:=if a.kind=0 then (b.kind,true) else (a.kind,fits b a.kind)
def unKd (op:Int)(x:Kd):Kd×Bool:=
 if op=2 then (⟨1,x.null⟩,fits x 1) else if op=3 then (⟨2,x.null⟩,fits x 2) else if op=16 then (⟨1,false⟩,true) else if op=19 then (⟨2,x.null⟩,fits x 3) else (⟨2,x.null⟩,fits x 4)
def binKd (op:Int)(x y:Kd):Kd×Bool:=
 if op=4 then (if x.kind=4 then (⟨4,true⟩,fits y 2) else (⟨2,true⟩,fits x 2&&fits y 2))
 else if op=5 then (if y.kind=4 then (⟨2,x.null || y.null⟩,fits x 4) else if x.kind=4 then (⟨4,true⟩,fits y 2) else (⟨2,true⟩,fits x 2&&fits y 2))
 else if op=6\/op=7\/op=8 then (⟨2,true⟩,fits x 2&&fits y 2)
 else if op=9 then (⟨3,true⟩,fits x 3&&fits y 3)
 else if op=14\/op=15 then (⟨1,x.null || y.null⟩,fits x 1&&fits y 1)
 else if op=18 then (⟨(common x y).1,x.null&&y.null⟩,(common x y).2)
 else (⟨1,x.null || y.null⟩,(common x y).2)
def opKd (n:Node):List Kd->Kd×Bool
 | []=>(⟨n.value.kind,n.value.kind==0⟩,true)
 | [x]=>unKd n.op x
 | [x,y]=>binKd n.op x y
 |x :: y :: z :: _=>(⟨(common y z).1,y.null || z.null⟩,(common y z).2&&fits x 1)
def nodeKd (cols:List Col)(zs:List Zone)(n:Node)(xs:List Kd):Int×Kd:=
 if n.op=1 then (if index cols n.name<0 then (5,default) else (0,⟨(cols.getD (index cols n.name).toNat default).kind,(cols.getD (index cols n.name).toNat default).nullable⟩))
 else if n.op=21 then (5,default)
 else if n.op=20/\zoneIx zs n.name<0 then (5,default)
 else if (opKd n xs).2=false then (7,default) else (0,(opKd n xs).1)
def typeLoop (cols:List Col)(zs:List Zone):List Kd->List Node->Int×Kd
 |st,[]=>(0,st.headD default)
 |st,n :: l=>
  if (nodeKd cols zs n (st.drop (restOf n st.length))).1≠0 then ((nodeKd cols zs n (st.drop (restOf n st.length))).1,default)
  else typeLoop cols zs (st.take (restOf n st.length)++[(nodeKd cols zs n (st.drop (restOf n st.length))).2]) l
def checkErr (e:List Node)(cols:List Col)(zs:List Zone):Int:=
 if exprErr e≠0 then exprErr e else if colsErr cols≠0 then colsErr cols else zonesErr zs
def typeS (e:List Node)(cols:List Col)(zs:List Zone):Int×Kd:=
 if checkErr e cols zs≠0 then (checkErr e cols zs,default) else typeLoop cols zs [] e
def nullV:Val:=⟨0,0,⟨#[]⟩⟩
def boolV (b:Bool):Val:=⟨1,if b then 1 else 0,⟨#[]⟩⟩
def numV (n:Int)(ok:Bool):Val:=if ok then ⟨2,n,⟨#[]⟩⟩ else nullV
def momV (n:Int):Val:=if n<0\/575999999<n then nullV else ⟨4,n,⟨#[]⟩⟩
def truth (v:Val):Int:=if v.kind=1/\valid v=true then v.num else -1
def logicV (a b:Val)(stop:Int):Val:=
 if truth a=stop\/truth b=stop then boolV (stop==1) else if truth a<0\/truth b<0 then nullV else boolV (stop==0)
def smallI (n:Int):Bool:=decide (-1073741824<=n)&&decide (n<=1073741824)
def addX (a b:Int):Int×Bool:=if smallI a&&smallI b&&smallI (a+b) then (a+b,true) else (0,false)
def subX (a b:Int):Int×Bool:=if smallI a&&smallI b&&smallI (a-b) then (a-b,true) else (0,false)
def mulX (a b:Int):Int×Bool:=if smallI a&&smallI b&&smallI (a*b) then (a*b,true) else (0,false)
def divX (a b:Int):Int×Bool:=if smallI a&&smallI b&&b != 0 then (a.fdiv b,true) else (0,false)
def modX (a b:Int):Int×Bool:=if smallI a&&smallI b&&b != 0 then (a.fmod b,true) else (0,false)
def arithV (op:Int)(x y:Val):Val:=
 if op=4 then (if x.kind=4 then momV (x.num+y.num) else numV (addX x.num y.num).1 (addX x.num y.num).2)
 else if op=5 then (if x.kind=4/\y.kind=2 then momV (x.num-y.num) else numV (subX x.num y.num).1 (subX x.num y.num).2)
 else if op=6 then numV (mulX x.num y.num).1 (mulX x.num y.num).2
 else if op=7 then numV (divX x.num y.num).1 (divX x.num y.num).2
 else numV (modX x.num y.num).1 (modX x.num y.num).2
def binV (op:Int)(x y:Val):Val:=
 if op=9 then (if 64<(x.str++y.str).size then nullV else ⟨3,0,x.str++y.str⟩)
 else if op=10 then boolV (cmpVal x y==0)
 else if op=11 then boolV (cmpVal x y != 0)
 else if op=12 then boolV (decide (cmpVal x y<0))
 else if op=13 then boolV (decide (cmpVal x y<=0))
 else arithV op x y
def unV (zs:List Zone)(op:Int)(name:ByteArray)(x:Val):Val:=
 if op=16 then boolV (x.kind==0) else if x.kind=0 then nullV else if op=2 then boolV (x.num==0) else if op=3 then numV (subX 0 x.num).1 (subX 0 x.num).2
 else if op=19 then numV x.str.size true else numV (dayS (zoneAt zs name) x.num).1 true
def opV (zs:List Zone)(n:Node):List Val->Val
 | []=>n.value
 | [x]=>unV zs n.op n.name x
 | [x,y]=>if n.op=14 then logicV x y 0 else if n.op=15 then logicV x y 1 else if n.op=18 then (if x.kind=0 then y else x) else if x.kind=0\/y.kind=0 then nullV else binV n.op x y
 |x :: y :: z :: _=>if truth x=1 then y else z
def nodeV (cols:List Col)(row:List Val)(zs:List Zone)(n:Node)(xs:List Val):Val:=
 if n.op=1 then row.getD (index cols n.name).toNat nullV else opV zs n xs
def valLoop (cols:List Col)(row:List Val)(zs:List Zone):List Val->List Node->Val
 |st,[]=>st.headD nullV
 |st,n :: l=>valLoop cols row zs (st.take (restOf n st.length)++[nodeV cols row zs n (st.drop (restOf n st.length))]) l
def evalS (e:List Node)(cols:List Col)(row:List Val)(zs:List Zone):Int×Val:=
 if (typeS e cols zs).1≠0 then ((typeS e cols zs).1,nullV) else if rowErr cols row≠0 then (rowErr cols row,nullV) else (0,valLoop cols row zs [] e)
def mergeF:Nat->List Ent->List Ent->List Ent
 | 0,_,_=>[]
 | _+1,[],[]=>[]
 |f+1,[],y :: ys=>y :: mergeF f [] ys
 |f+1,x :: xs,[]=>x :: mergeF f xs []
 |f+1,x :: xs,y :: ys=>
  if cmpRows x.row y.row<0 then x :: mergeF f xs (y :: ys)
  else if 0<cmpRows x.row y.row then y :: mergeF f (x :: xs) ys
  else ⟨x.row,x.count+y.count⟩ :: mergeF f xs ys
def mergeL (xs ys:List Ent):List Ent:=mergeF (xs.length+ys.length) xs ys
def Bnd (C:Int)(l:List Ent):Prop:= ∀x∈l, -C<=x.count/\x.count<=C
theorem mergeF_more: ∀f xs ys,xs.length+ys.length<=f->mergeF f xs ys=mergeF (xs.length+ys.length) xs ys
 | 0,xs,ys,h=>by rw[show xs.length+ys.length=0 from by omega]
 |f+1,[],[],_=>by simp[mergeF]
 |f+1,[],y :: ys,h=>by
  simp only[List.length_nil,List.length_cons,Nat.zero_add]at h⊢
  rw[mergeF,mergeF,mergeF_more f [] ys (by simp;omega)]
  simp
 |f+1,x :: xs,[],h=>by
  simp only[List.length_nil,List.length_cons,Nat.add_zero]at h⊢
  rw[mergeF,mergeF,mergeF_more f xs [] (by simp;omega)]
  simp
 |f+1,x :: xs,y :: ys,h=>by
  simp only[List.length_cons]at h⊢
  rw[show xs.length+1+(ys.length+1)=(xs.length+(ys.length+1))+1 from by omega,mergeF,mergeF]
  rw[mergeF_more f xs (y :: ys) (by simp;omega),mergeF_more f (x :: xs) ys (by simp;omega),mergeF_more f xs ys (by omega)]
  rw[mergeF_more (xs.length+(ys.length+1)) (x :: xs) ys (by simp;omega),mergeF_more (xs.length+(ys.length+1)) xs ys (by omega)]
  simp
theorem mergeL_nil:mergeL [] []=[]:=rfl
theorem mergeL_right (y:Ent)(ys:List Ent):mergeL [] (y :: ys)=y :: mergeL [] ys:=by
 unfold mergeL
 simp only[List.length_nil,List.length_cons,Nat.zero_add]
 rw[mergeF]
theorem mergeL_left (x:Ent)(xs:List Ent):mergeL (x :: xs) []=x :: mergeL xs []:=by
 unfold mergeL
 simp only[List.length_nil,List.length_cons,Nat.add_zero]
 rw[mergeF]
theorem mergeL_both (x y:Ent)(xs ys:List Ent):mergeL (x :: xs) (y :: ys)=
  if cmpRows x.row y.row<0 then x :: mergeL xs (y :: ys) else if 0<cmpRows x.row y.row then y :: mergeL (x :: xs) ys else ⟨x.row,x.count+y.count⟩ :: mergeL xs ys:=by
 unfold mergeL
 simp only[List.length_cons]
 rw[show xs.length+1+(ys.length+1)=(xs.length+(ys.length+1))+1 from by omega,mergeF]
 rw[mergeF_more (xs.length+(ys.length+1)) (x :: xs) ys (by simp;omega),mergeF_more (xs.length+(ys.length+1)) xs ys (by omega)]
 simp
theorem mergeL_len: ∀n xs ys,xs.length+ys.length<=n->(mergeL xs ys).length<=xs.length+ys.length
 | 0,xs,ys,h=>by
  rw[List.eq_nil_of_length_eq_zero (show xs.length=0 by omega),List.eq_nil_of_length_eq_zero (show ys.length=0 by omega)]
  simp[mergeL_nil]
 |n+1,[],[],_=>by simp[mergeL_nil]
 |n+1,[],y :: ys,h=>by
  have:=mergeL_len n [] ys (by simp at h⊢;omega)
  rw[mergeL_right];simp at*;omega
 |n+1,x :: xs,[],h=>by
  have:=mergeL_len n xs [] (by simp at h⊢;omega)
  rw[mergeL_left];simp at*;omega
 |n+1,x :: xs,y :: ys,h=>by
  have h1:=mergeL_len n xs (y :: ys) (by simp at h⊢;omega)
  have h2:=mergeL_len n (x :: xs) ys (by simp at h⊢;omega)
  have h3:=mergeL_len n xs ys (by simp at h⊢;omega)
  rw[mergeL_both]
  split
  ·simp at*;omega
  ·split
   ·simp at*;omega
   ·simp at*;omega
theorem mergeL_bnd {C D:Int}(hC:0<=C)(hD:0<=D): ∀n xs ys,xs.length+ys.length<=n->Bnd C xs->Bnd D ys->Bnd (C+D) (mergeL xs ys)
 | 0,xs,ys,h,_,_=>by
  rw[List.eq_nil_of_length_eq_zero (show xs.length=0 by omega),List.eq_nil_of_length_eq_zero (show ys.length=0 by omega)]
  intro x hx;cases hx
 |n+1,[],[],_,_,_=>by intro x hx;cases hx
 |n+1,[],y :: ys,h,hx,hy=>by
  rw[mergeL_right]
  have ih:=mergeL_bnd hC hD n [] ys (by simp at h⊢;omega) hx (λz hz=>hy z (List.mem_cons_of_mem _ hz))
  intro z hz
  cases hz with
  |head=>have:=hy y (List.mem_cons_self ..);omega
  |tail _ hz=>exact ih z hz
 |n+1,x :: xs,[],h,hx,hy=>by
  rw[mergeL_left]
  have ih:=mergeL_bnd hC hD n xs [] (by simp at h⊢;omega) (λz hz=>hx z (List.mem_cons_of_mem _ hz)) hy
  intro z hz
  cases hz with
  |head=>have:=hx x (List.mem_cons_self ..);omega
  |tail _ hz=>exact ih z hz
 |n+1,x :: xs,y :: ys,h,hx,hy=>by
  have hx1:=hx x (List.mem_cons_self ..)
  have hy1:=hy y (List.mem_cons_self ..)
  have i1:=mergeL_bnd hC hD n xs (y :: ys) (by simp at h⊢;omega) (λz hz=>hx z (List.mem_cons_of_mem _ hz)) hy
  have i2:=mergeL_bnd hC hD n (x :: xs) ys (by simp at h⊢;omega) hx (λz hz=>hy z (List.mem_cons_of_mem _ hz))
  have i3:=mergeL_bnd hC hD n xs ys (by simp at h⊢;omega) (λz hz=>hx z (List.mem_cons_of_mem _ hz)) (λz hz=>hy z (List.mem_cons_of_mem _ hz))
  rw[mergeL_both]
  split
  ·intro z hz
   cases hz with
   |head=>omega
   |tail _ hz=>exact i1 z hz
  ·split
   ·intro z hz
    cases hz with
    |head=>omega
    |tail _ hz=>exact i2 z hz
   ·intro z hz
    cases hz with
    |head=>simp only;omega
    |tail _ hz=>exact i3 z hz
def sortF:Nat->List Ent->List Ent
 | 0,l=>l
 |f+1,l=>if l.length<2 then l else mergeL (sortF f (l.take (l.length / 2))) (sortF f (l.drop (l.length / 2)))
def sortL (l:List Ent):List Ent:=sortF l.length l
theorem sortF_step (m:Nat)(l:List Ent)(h:¬l.length<2):sortF (m+1) l=mergeL (sortF m (l.take (l.length / 2))) (sortF m (l.drop (l.length / 2))):=by rw[sortF,if_neg h]
theorem sortF_more: ∀n (l:List Ent),l.length<=n-> ∀f,l.length<=f->sortF f l=sortF l.length l
 | 0,l,h,f,_=>by
  rw[List.eq_nil_of_length_eq_zero (show l.length=0 by omega)]
  cases f with
  |zero=>rfl
  |succ f=>rw[sortF];rfl
 |n+1,l,h,f,hf=>by
  by_cases hl:l.length<2
  ·match l,hl,f,hf with
   | [],_,0,_=>rfl
   | [],_,f+1,_=>rw[sortF];rfl
   | [x],_,f+1,_=>rw[sortF];rfl
   |x :: y :: t,h,_,_=>simp at h;omega
  ·obtain ⟨m,hm⟩: ∃m,l.length=m+1:=⟨l.length-1,by omega⟩
   obtain ⟨k,rfl⟩: ∃k,f=k+1:=⟨f-1,by omega⟩
   have h1:(l.take (l.length / 2)).length<=m:=by rw[List.length_take];omega
   have h2:(l.drop (l.length / 2)).length<=m:=by rw[List.length_drop];omega
   have e:sortF l.length l=sortF (m+1) l:=congrArg (λn=>sortF n l) hm
   rw[e,sortF_step k l hl,sortF_step m l hl]
   have i1:=sortF_more n (l.take (l.length / 2)) (by omega)
   have i2:=sortF_more n (l.drop (l.length / 2)) (by omega)
   rw[i1 k (by omega),i2 k (by omega),i1 m h1,i2 m h2]
theorem sortL_short {l:List Ent}(h:l.length<2):sortL l=l:=by
 match l,h with
 | [],_=>rfl
 | [x],_=>rfl
 |x :: y :: t,h=>simp at h;omega
theorem sortL_long {l:List Ent}(h:¬l.length<2):sortL l=mergeL (sortL (l.take (l.length / 2))) (sortL (l.drop (l.length / 2))):=by
 obtain ⟨m,hm⟩: ∃m,l.length=m+1:=⟨l.length-1,by omega⟩
 have h1:(l.take (l.length / 2)).length<=m:=by rw[List.length_take];omega
 have h2:(l.drop (l.length / 2)).length<=m:=by rw[List.length_drop];omega
 have e:sortF l.length l=sortF (m+1) l:=congrArg (λn=>sortF n l) hm
 unfold sortL
 rw[e,sortF_step m l h,sortF_more m _ h1 m h1,sortF_more m _ h2 m h2]
theorem sortL_len: ∀n (l:List Ent),l.length<=n->(sortL l).length<=l.length
 | 0,l,h=>by rw[List.eq_nil_of_length_eq_zero (show l.length=0 by omega)];simp[sortL,sortF]
 |n+1,l,h=>by
  by_cases hl:l.length<2
  ·rw[sortL_short hl];omega
  ·rw[sortL_long hl]
   have h1:=sortL_len n (l.take (l.length / 2)) (by rw[List.length_take];omega)
   have h2:=sortL_len n (l.drop (l.length / 2)) (by rw[List.length_drop];omega)
   have h3:=mergeL_len _ (sortL (l.take (l.length / 2))) (sortL (l.drop (l.length / 2))) (Nat.le_refl _)
   rw[List.length_take]at h1
   rw[List.length_drop]at h2
   omega
theorem sortL_bnd {C:Int}(hC:0<=C): ∀n (l:List Ent),l.length<=n->Bnd C l->Bnd (C*(l.length:Int)) (sortL l)
 | 0,l,h,_=>by
  rw[List.eq_nil_of_length_eq_zero (show l.length=0 by omega)]
  intro x hx;cases hx
 |n+1,l,h,hb=>by
  by_cases hl:l.length<2
  ·rw[sortL_short hl]
   intro x hx
   have h1:=hb x hx
   have h2:l.length=1:=by have:=List.length_pos_of_mem hx;omega
   simp[h2];omega
  ·rw[sortL_long hl]
   have h1:(l.take (l.length / 2)).length=l.length / 2:=by rw[List.length_take];omega
   have h2:(l.drop (l.length / 2)).length=l.length-l.length / 2:=by rw[List.length_drop]
   have b1:=sortL_bnd hC n (l.take (l.length / 2)) (by omega) (λx hx=>hb x (List.mem_of_mem_take hx))
   have b2:=sortL_bnd hC n (l.drop (l.length / 2)) (by omega) (λx hx=>hb x (List.mem_of_mem_drop hx))
   rw[h1]at b1
   rw[h2]at b2
   have:=mergeL_bnd (Int.mul_nonneg hC (by omega)) (Int.mul_nonneg hC (by omega)) _ _ _ (Nat.le_refl _) b1 b2
   rw[<-Int.mul_add]at this
   rw[show ((l.length / 2:Nat):Int)+((l.length-l.length / 2:Nat):Int)=(l.length:Int) from by omega]at this
   exact this
def keepF (l:List Ent):List Ent:=l.filter λx=>!(x.count==0)
def resErr:Nat->List Ent->Bool
 | _,[]=>false
 |m,x :: l=>if x.count=0 then resErr m l else (decide (x.count < -65536) || decide (65536<x.count) || decide (m=4096)) || resErr (m+1) l
structure Total {α:Type} (c:α->α->Int):Prop where
 zero: ∀a b,c a b=0↔a=b
 anti: ∀a b,c a b<0↔0<c b a
 trans: ∀a b d,c a b<0->c b d<0->c a d<0
theorem Total.self {α:Type}{c:α->α->Int}(h:Total c)(a:α):c a a=0:=(h.zero a a).2 rfl
theorem Total.lt_of {α:Type}{c:α->α->Int}(h:Total c){a b:α}(h1:¬c a b<0)(h2:¬c a b=0):c b a<0:=(h.anti b a).2 (by omega)
theorem ci_lt {a b:Int}:cmpInt a b<0↔a<b:=by rw[cmpInt];(repeat' split) <;> omega
theorem ci_zero {a b:Int}:cmpInt a b=0↔a=b:=by rw[cmpInt];(repeat' split) <;> omega
theorem bl_irrefl: ∀l:List UInt8,Op.bytesLess l l=false
 | []=>rfl
 |x :: l=>by simp[Op.bytesLess,bl_irrefl l]
theorem bl_cons {x y:UInt8}{l m:List UInt8}:Op.bytesLess (x :: l) (y :: m)=true↔x.toNat<y.toNat\/(x=y/\Op.bytesLess l m=true):=by
 simp only[Op.bytesLess,Bool.or_eq_true,Bool.and_eq_true,decide_eq_true_eq,beq_iff_eq]
 exact Iff.rfl
theorem bl_trans: ∀l m n:List UInt8,Op.bytesLess l m=true->Op.bytesLess m n=true->Op.bytesLess l n=true
 | _,_,[],_,h=>by simp[Op.bytesLess]at h
 | [],_,_ :: _,_,_=>rfl
 | _ :: _,[],_ :: _,h,_=>by simp[Op.bytesLess]at h
 |x :: l,y :: m,z :: n,h,h'=>by
  rw[bl_cons]at h h'⊢
  rcases h with h|⟨rfl,h⟩
  ·rcases h' with h'|⟨rfl,h'⟩
   ·exact .inl (by omega)
   ·exact .inl h
  ·rcases h' with h'|⟨rfl,h'⟩
   ·exact .inl h'
   ·exact .inr ⟨rfl,bl_trans l m n h h'⟩
theorem bl_tri: ∀(l m:List UInt8),Op.bytesLess l m=false->Op.bytesLess m l=false->l=m
 | [],[]=>λ_ _=>rfl
 | [],_ :: _=>λh _=>by simp[Op.bytesLess]at h
 | _ :: _,[]=>λ_ h=>by simp[Op.bytesLess]at h
 |x :: l,y :: m=>λh h'=>by
  have h1:¬Op.bytesLess (x :: l) (y :: m)=true:=by rw[h];simp
  have h2:¬Op.bytesLess (y :: m) (x :: l)=true:=by rw[h'];simp
  rw[bl_cons]at h1 h2
  have e:x=y:=UInt8.toNat_inj.1 (by omega)
  subst e
  rw[bl_tri l m (by cases q:Op.bytesLess l m;rfl;exact absurd (.inr ⟨rfl,q⟩) h1) (by cases q:Op.bytesLess m l;rfl;exact absurd (.inr ⟨rfl,q⟩) h2)]
theorem ba_eq {a b:ByteArray}(h:a.toList=b.toList):a=b:=by
 rw[ByteArray.toList_eq,ByteArray.toList_eq]at h
 obtain ⟨⟨a⟩⟩:=a
 obtain ⟨⟨b⟩⟩:=b
 simp at h
 rw[h]
theorem cs_lt {a b:ByteArray}:cmpStr a b<0↔Op.bytesLess a.toList b.toList=true:=by
 rw[cmpStr]
 split
 ·simp_all
 ·split <;> simp_all
theorem cs_zero {a b:ByteArray}:cmpStr a b=0↔a=b:=by
 rw[cmpStr]
 split
 ·rename_i h
  constructor
  ·intro q;omega
  ·intro q;rw[q,bl_irrefl]at h;cases h
 ·split
  ·rename_i h;exact ⟨λ_=>ba_eq h,λ_=>rfl⟩
  ·rename_i h;exact ⟨λq=>absurd q (by omega),λq=>absurd (by rw[q]) h⟩
theorem total_str:Total cmpStr:=by
 refine ⟨λ_ _=>cs_zero,λa b=>?_,λa b d h h'=>?_⟩
 ·constructor
  ·intro h
   have h1:¬cmpStr b a<0:=λq=>by
    have:=bl_trans _ _ _ (cs_lt.1 h) (cs_lt.1 q)
    rw[bl_irrefl]at this;cases this
   have h2:¬cmpStr b a=0:=λq=>by
    rw[cs_zero]at q;subst q;rw[cs_zero.2 rfl]at h;omega
   omega
  ·intro h
   by_cases q:cmpStr a b<0
   ·exact q
   ·have h1:Op.bytesLess a.toList b.toList=false:=by cases e:Op.bytesLess a.toList b.toList;rfl;exact absurd (cs_lt.2 e) q
    have h2:Op.bytesLess b.toList a.toList=false:=by cases e:Op.bytesLess b.toList a.toList;rfl;have:=cs_lt.2 e;omega
    have:=ba_eq (bl_tri _ _ h1 h2)
    subst this
    rw[cs_zero.2 rfl]at h;omega
 ·exact cs_lt.2 (bl_trans _ _ _ (cs_lt.1 h) (cs_lt.1 h'))
theorem cv_lt {a b:Val}:cmpVal a b<0↔a.kind<b.kind\/(a.kind=b.kind/\(a.num<b.num\/(a.num=b.num/\cmpStr a.str b.str<0))):=by
 rw[cmpVal]
 have h1:=@ci_zero a.kind b.kind
 have h2:=@ci_zero a.num b.num
 have h3:=@ci_lt a.kind b.kind
 have h4:=@ci_lt a.num b.num
 split
 ·rename_i h;constructor <;> intro q <;> omega
 ·split
  ·constructor <;> intro q <;> omega
  ·constructor
   ·intro q;exact .inr ⟨by omega,.inr ⟨by omega,q⟩⟩
   ·intro q;omega
theorem cv_zero {a b:Val}:cmpVal a b=0↔a=b:=by
 obtain ⟨k,n,s⟩:=a
 obtain ⟨k',n',s'⟩:=b
 rw[cmpVal]
 have h1:=@ci_zero k k'
 have h2:=@ci_zero n n'
 have h3:=@cs_zero s s'
 simp only
 split
 ·rename_i h;exact ⟨λq=>absurd q h,λq=>by injection q with q;exact absurd (h1.2 q) h⟩
 ·split
  ·rename_i h;exact ⟨λq=>absurd q h,λq=>by injection q with q q1;exact absurd (h2.2 q1) h⟩
  ·rename_i g h
   constructor
   ·intro q;rw[h1.1 (by omega),h2.1 (by omega),h3.1 q]
   ·intro q;injection q with _ _ q;exact h3.2 q
theorem total_val:Total cmpVal:=by
 refine ⟨λ_ _=>cv_zero,λa b=>?_,λa b d h h'=>?_⟩
 ·have g: ∀a b:Val,cmpVal a b<0->0<cmpVal b a:=λa b h=>by
   rw[cv_lt]at h
   have h1:¬cmpVal b a<0:=by
    rw[cv_lt]
    intro q
    have:cmpStr a.str b.str<0->cmpStr b.str a.str<0->False:=λp p'=>by have:=(total_str.anti _ _).1 p;omega
    rcases h with h|⟨h,h|⟨h2,h⟩⟩ <;> rcases q with q|⟨q,q|⟨q2,q⟩⟩ <;> first|omega|exact this h q
   have h2:¬cmpVal b a=0:=by
    rw[cv_zero];rintro rfl
    have:=(total_str.zero b.str b.str).2 rfl
    rcases h with h|⟨_,h|⟨_,h⟩⟩ <;> omega
   omega
  constructor
  ·exact g a b
  ·intro h
   by_cases q:cmpVal a b<0
   ·exact q
   ·have h2:¬cmpVal a b=0:=by
     rw[cv_zero];rintro rfl;rw[cv_zero.2 rfl]at h;omega
    exfalso
    have h3:¬cmpVal b a<0:=by omega
    rw[cv_lt]at q h3
    rcases Int.lt_trichotomy a.kind b.kind with e|e|e
    ·exact q (.inl e)
    ·rcases Int.lt_trichotomy a.num b.num with e'|e'|e'
     ·exact q (.inr ⟨e,.inl e'⟩)
     ·by_cases c1:cmpStr a.str b.str<0
      ·exact q (.inr ⟨e,.inr ⟨e',c1⟩⟩)
      ·by_cases c2:cmpStr a.str b.str=0
       ·apply h2
        rw[cv_zero]
        obtain ⟨k,n,s⟩:=a
        obtain ⟨k',n',s'⟩:=b
        rw[cs_zero]at c2
        simp only at e e' c2
        rw[e,e',c2]
       ·exact h3 (.inr ⟨e.symm,.inr ⟨e'.symm,total_str.lt_of c1 c2⟩⟩)
     ·exact h3 (.inr ⟨e.symm,.inl e'⟩)
    ·exact h3 (.inl e)
 ·rw[cv_lt]at h h'⊢
  have:=total_str.trans a.str b.str d.str
  rcases h with h|⟨h,h|⟨h2,h⟩⟩ <;> rcases h' with q|⟨q,q|⟨q2,q⟩⟩
  all_goals first|exact .inl (by omega)|exact .inr ⟨by omega,.inl (by omega)⟩|exact .inr ⟨by omega,.inr ⟨by omega,this h q⟩⟩
theorem cr_zero: ∀{a b:List Val},cmpRows a b=0↔a=b
 | [],[]=>by simp[cmpRows]
 | [],_ :: _=>by simp[cmpRows]
 | _ :: _,[]=>by simp[cmpRows]
 |x :: l,y :: m=>by
  have ih:=@cr_zero l m
  have h:=@cv_zero x y
  rw[cmpRows]
  split
  ·rename_i g;exact ⟨λq=>absurd q g,λq=>by injection q with q;exact absurd (h.2 q) g⟩
  ·rename_i g;rw[ih,h.1 (by omega)];simp
theorem cr_cons {x y:Val}{l m:List Val}:cmpRows (x :: l) (y :: m)<0↔cmpVal x y<0\/(x=y/\cmpRows l m<0):=by
 have h:=@cv_zero x y
 rw[cmpRows]
 split
 ·rename_i g;exact ⟨λq=>.inl q,λq=>by rcases q with q|⟨q,_⟩;exact q;exact absurd (h.2 q) g⟩
 ·rename_i g;exact ⟨λq=>.inr ⟨h.1 (by omega),q⟩,λq=>by rcases q with q|⟨_,q⟩;omega;exact q⟩
theorem cr_anti: ∀{a b:List Val},cmpRows a b<0↔0<cmpRows b a
 | [],[]=>by simp[cmpRows]
 | [],_ :: _=>by simp[cmpRows]
 | _ :: _,[]=>by simp[cmpRows]
 |x :: l,y :: m=>by
  have ih:=@cr_anti l m
  have h:=total_val.anti x y
  have h0:=total_val.zero x y
  have h1:=total_val.zero y x
  rw[cmpRows,cmpRows]
  by_cases e:x=y
  ·subst e;rw[if_neg (by rw[total_val.self];simp),if_neg (by rw[total_val.self];simp)];exact ih
  ·rw[if_pos (λq=>e (h0.1 q)),if_pos (λq=>e (h1.1 q).symm)];exact h
theorem cr_trans: ∀{a b d:List Val},cmpRows a b<0->cmpRows b d<0->cmpRows a d<0
 | _,[],[],_,h=>by simp[cmpRows]at h
 | _,_ :: _,[],_,h=>by simp[cmpRows]at h
 | [],_,_ :: _,_,_=>by simp[cmpRows]
 | _ :: _,[],_ :: _,h,_=>by simp[cmpRows]at h
 |x :: l,y :: m,z :: n,h,h'=>by
  rw[cr_cons]at h h'⊢
  rcases h with h|⟨rfl,h⟩
  ·rcases h' with h'|⟨rfl,h'⟩
   ·exact .inl (total_val.trans _ _ _ h h')
   ·exact .inl h
  ·rcases h' with h'|⟨rfl,h'⟩
   ·exact .inl h'
   ·exact .inr ⟨rfl,cr_trans h h'⟩
theorem total_rows:Total cmpRows:=⟨λ_ _=>cr_zero,λ_ _=>cr_anti,λ_ _ _=>cr_trans⟩
def cnt:List Ent->List Val->Int
 | [],_=>0
 |x :: l,r=>(if cmpRows x.row r=0 then x.count else 0)+cnt l r
def AscE (l:List Ent):Prop:=l.Pairwise λx y=>cmpRows x.row y.row<0
def NoZ (l:List Ent):Prop:= ∀x∈l,x.count≠0
theorem cnt_app (l m:List Ent)(r:List Val):cnt (l++m) r=cnt l r+cnt m r:=by
 induction l with
 |nil=>simp[cnt]
 |cons x l ih=>rw[List.cons_append,cnt,cnt,ih];omega
theorem cnt_none {l:List Ent}{r:List Val}(h: ∀x∈l,cmpRows x.row r≠0):cnt l r=0:=by
 induction l with
 |nil=>rfl
 |cons x l ih=>rw[cnt,if_neg (h x (by simp)),ih λy hy=>h y (by simp[hy])];rfl
theorem AscE.tail {x:Ent}{l:List Ent}(h:AscE (x :: l)):AscE l:=(List.pairwise_cons.1 h).2
theorem AscE.head {x:Ent}{l:List Ent}(h:AscE (x :: l)): ∀y∈l,cmpRows x.row y.row<0:=(List.pairwise_cons.1 h).1
theorem AscE.filter {l:List Ent}(h:AscE l)(p:Ent->Bool):AscE (l.filter p):=List.Pairwise.filter p h
theorem AscE.head_zero {x:Ent}{l:List Ent}(h:AscE (x :: l)):cnt l x.row=0:=
 cnt_none λy hy q=>by
  have h1:=h.head y hy
  have h2:=cr_zero.1 q
  rw[h2,cr_zero.2 rfl]at h1
  omega
theorem AscE.mem {l:List Ent}(h:AscE l){x:Ent}(hx:x∈l):cnt l x.row=x.count:=by
 induction l with
 |nil=>cases hx
 |cons y l ih=>
  rw[cnt]
  rcases List.mem_cons.1 hx with rfl|hx
  ·rw[if_pos (cr_zero.2 rfl),h.head_zero];omega
  ·have h1:=h.head x hx
   rw[if_neg (by omega),ih h.tail hx];omega
theorem asc_ext: ∀{l m:List Ent},AscE l->AscE m->NoZ l->NoZ m->(∀r,cnt l r=cnt m r)->l=m
 | [],[],_,_,_,_,_=>rfl
 | [],y :: m,_,hm,_,hz,h=>by
  have:=h y.row
  rw[hm.mem (by simp),cnt]at this
  exact absurd this.symm (hz y (by simp))
 |x :: l,[],hl,_,hz,_,h=>by
  have:=h x.row
  rw[hl.mem (by simp),cnt]at this
  exact absurd this (hz x (by simp))
 |x :: l,y :: m,hl,hm,hz,hz',h=>by
  have hx:=hl.mem (x:=x) (by simp)
  have hy:=hm.mem (x:=y) (by simp)
  have n1:¬cmpRows x.row y.row<0:=λq=>by
   have:cnt (y :: m) x.row=0:=cnt_none λz hz0 e=>by
    have e:=cr_zero.1 e
    rcases List.mem_cons.1 hz0 with rfl|hz0
    ·rw[e,cr_zero.2 rfl]at q;omega
    ·have:=cr_trans q (hm.head z hz0)
     rw[e,cr_zero.2 rfl]at this;omega
   rw[<-h,hx]at this
   exact hz x (by simp) this
  have n2:¬cmpRows y.row x.row<0:=λq=>by
   have:cnt (x :: l) y.row=0:=cnt_none λz hz0 e=>by
    have e:=cr_zero.1 e
    rcases List.mem_cons.1 hz0 with rfl|hz0
    ·rw[e,cr_zero.2 rfl]at q;omega
    ·have:=cr_trans q (hl.head z hz0)
     rw[e,cr_zero.2 rfl]at this;omega
   rw[h,hy]at this
   exact hz' y (by simp) this
  have e:x.row=y.row:=by
   by_cases q:cmpRows x.row y.row=0
   ·exact cr_zero.1 q
   ·exact absurd (total_rows.lt_of n1 q) n2
  have e2:x.count=y.count:=by rw[<-hx,<-hy,h,e]
  have e3:x=y:=by
   obtain ⟨a,b⟩:=x
   obtain ⟨c,d⟩:=y
   simp only at e e2
   rw[e,e2]
  subst e3
  rw[asc_ext hl.tail hm.tail (λz q=>hz z (by simp[q])) (λz q=>hz' z (by simp[q])) λr=>by
   have:=h r
   rw[cnt,cnt]at this
   omega]
theorem mergeF_rows {P:List Val->Prop}: ∀f xs ys,(∀x∈xs,P x.row)->(∀x∈ys,P x.row)-> ∀x∈mergeF f xs ys,P x.row
 | 0,_,_=>λ_ _ x hx=>by simp[mergeF]at hx
 |f+1,[],[]=>λ_ _ x hx=>by simp[mergeF]at hx
 |f+1,[],y :: ys=>λh h' x hx=>by
  rw[mergeF]at hx
  rcases List.mem_cons.1 hx with rfl|hx
  ·exact h' _ (by simp)
  ·exact mergeF_rows f [] ys h (λz hz=>h' z (by simp[hz])) x hx
 |f+1,x :: xs,[]=>λh h' z hx=>by
  rw[mergeF]at hx
  rcases List.mem_cons.1 hx with rfl|hx
  ·exact h _ (by simp)
  ·exact mergeF_rows f xs [] (λz hz=>h z (by simp[hz])) h' z hx
 |f+1,x :: xs,y :: ys=>λh h' z hx=>by
  rw[mergeF]at hx
  split at hx
  ·rcases List.mem_cons.1 hx with rfl|hx
   ·exact h _ (by simp)
   ·exact mergeF_rows f xs (y :: ys) (λz hz=>h z (by simp[hz])) h' z hx
  ·split at hx
   ·rcases List.mem_cons.1 hx with rfl|hx
    ·exact h' _ (by simp)
    ·exact mergeF_rows f (x :: xs) ys h (λz hz=>h' z (by simp[hz])) z hx
   ·rcases List.mem_cons.1 hx with rfl|hx
    ·exact h x (by simp)
    ·exact mergeF_rows f xs ys (λz hz=>h z (by simp[hz])) (λz hz=>h' z (by simp[hz])) z hx
theorem mergeF_cnt: ∀f xs ys,xs.length+ys.length<=f-> ∀r,cnt (mergeF f xs ys) r=cnt xs r+cnt ys r
 | 0,xs,ys=>λh r=>by
  have h1:xs=[]:=List.length_eq_zero_iff.1 (by omega)
  have h2:ys=[]:=List.length_eq_zero_iff.1 (by omega)
  subst h1 h2;rfl
 |f+1,[],[]=>λh r=>rfl
 |f+1,[],y :: ys=>λh r=>by
  simp only[mergeF,cnt,mergeF_cnt f [] ys (by simp at h⊢;omega) r];omega
 |f+1,x :: xs,[]=>λh r=>by
  simp only[mergeF,cnt,mergeF_cnt f xs [] (by simp at h⊢;omega) r];omega
 |f+1,x :: xs,y :: ys=>λh r=>by
  simp only[List.length_cons]at h
  rw[mergeF]
  split
  ·rw[cnt,mergeF_cnt f xs (y :: ys) (by simp;omega),cnt,cnt];omega
  ·split
   ·rw[cnt,mergeF_cnt f (x :: xs) ys (by simp;omega),cnt,cnt];omega
   ·have e:x.row=y.row:=cr_zero.1 (by omega)
    rw[cnt,mergeF_cnt f xs ys (by omega),cnt,cnt,e]
    simp only
    split <;> omega
theorem mergeF_asc: ∀f xs ys,AscE xs->AscE ys->AscE (mergeF f xs ys)
 | 0,_,_=>λ_ _=>List.Pairwise.nil
 |f+1,[],[]=>λ_ _=>List.Pairwise.nil
 |f+1,[],y :: ys=>λh h'=>by
  rw[mergeF]
  exact List.pairwise_cons.2 ⟨mergeF_rows (P:=λr=>cmpRows y.row r<0) f [] ys (λz hz=>by cases hz) h'.head,mergeF_asc f [] ys h h'.tail⟩
 |f+1,x :: xs,[]=>λh h'=>by
  rw[mergeF]
  exact List.pairwise_cons.2 ⟨mergeF_rows (P:=λr=>cmpRows x.row r<0) f xs [] h.head (λz hz=>by cases hz),mergeF_asc f xs [] h.tail h'⟩
 |f+1,x :: xs,y :: ys=>λh h'=>by
  rw[mergeF]
  split
  ·rename_i q
   exact List.pairwise_cons.2 ⟨mergeF_rows (P:=λr=>cmpRows x.row r<0) f xs (y :: ys) h.head (λz hz=>by
    rcases List.mem_cons.1 hz with rfl|hz
    ·exact q
    ·exact cr_trans q (h'.head z hz)),mergeF_asc f xs (y :: ys) h.tail h'⟩
  ·split
   ·rename_i _ q
    have q:=cr_anti.2 q
    exact List.pairwise_cons.2 ⟨mergeF_rows (P:=λr=>cmpRows y.row r<0) f (x :: xs) ys (λz hz=>by
     rcases List.mem_cons.1 hz with rfl|hz
     ·exact q
     ·exact cr_trans q (h.head z hz)) h'.head,mergeF_asc f (x :: xs) ys h h'.tail⟩
   ·have e:x.row=y.row:=cr_zero.1 (by omega)
    exact List.pairwise_cons.2 ⟨mergeF_rows (P:=λr=>cmpRows x.row r<0) f xs ys h.head (λz hz=>by rw[e];exact h'.head z hz),mergeF_asc f xs ys h.tail h'.tail⟩
theorem mergeL_cnt (xs ys:List Ent)(r:List Val):cnt (mergeL xs ys) r=cnt xs r+cnt ys r:=mergeF_cnt _ _ _ (Nat.le_refl _) r
theorem mergeL_asc {xs ys:List Ent}(h:AscE xs)(h':AscE ys):AscE (mergeL xs ys):=mergeF_asc _ _ _ h h'
theorem sortF_cnt: ∀f (l:List Ent) (r:List Val),cnt (sortF f l) r=cnt l r
 | 0,l,r=>rfl
 |f+1,l,r=>by
  rw[sortF]
  split
  ·rfl
  ·rw[mergeL_cnt,sortF_cnt f,sortF_cnt f,<-cnt_app,List.take_append_drop]
theorem sortF_asc: ∀f (l:List Ent),l.length<=f->AscE (sortF f l)
 | 0,l,h=>by
  have h1:l=[]:=List.length_eq_zero_iff.1 (by omega)
  subst h1;exact List.Pairwise.nil
 |f+1,l,h=>by
  rw[sortF]
  split
  ·rename_i q
   match l,q with
   | [],_=>exact List.Pairwise.nil
   | [x],_=>exact List.pairwise_singleton _ _
   | _ :: _ :: _,q=>exact absurd q (by simp)
  ·exact mergeL_asc (sortF_asc f _ (by rw[List.length_take];omega)) (sortF_asc f _ (by rw[List.length_drop];omega))
theorem sortL_cnt (l:List Ent)(r:List Val):cnt (sortL l) r=cnt l r:=sortF_cnt _ _ _
theorem sortL_asc (l:List Ent):AscE (sortL l):=sortF_asc _ _ (Nat.le_refl _)
theorem keepF_cnt (l:List Ent)(r:List Val):cnt (keepF l) r=cnt l r:=by
 induction l with
 |nil=>rfl
 |cons x l ih=>
  rw[keepF]at ih⊢
  by_cases q:x.count=0
  ·rw[List.filter_cons_of_neg (by simp[q]),ih,cnt,q];simp
  ·rw[List.filter_cons_of_pos (by simp[q]),cnt,ih,cnt]
theorem keepF_asc {l:List Ent}(h:AscE l):AscE (keepF l):=h.filter _
theorem keepF_noz (l:List Ent):NoZ (keepF l):=λx hx=>by
 have:=(List.mem_filter.1 hx).2
 simpa using this
theorem keepF_sub {l:List Ent}: ∀x∈keepF l,x∈l:=λx hx=>(List.mem_filter.1 hx).1
theorem keepF_id {l:List Ent}(h:NoZ l):keepF l=l:=List.filter_eq_self.2 λx hx=>by simpa using h x hx
theorem keep_unique {xs ys:List Ent}(h:AscE ys)(hc: ∀r,cnt ys r=cnt xs r):keepF ys=keepF (sortL xs):=
 asc_ext (keepF_asc h) (keepF_asc (sortL_asc xs)) (keepF_noz _) (keepF_noz _) λr=>by rw[keepF_cnt,keepF_cnt,sortL_cnt,hc]
theorem resErr_keep: ∀(l:List Ent) (m:Nat),resErr m (keepF l)=resErr m l
 | [],m=>rfl
 |x :: l,m=>by
  have ih:=resErr_keep l
  by_cases q:x.count=0
  ·rw[show keepF (x :: l)=keepF l from List.filter_cons_of_neg (by simp[q]),ih,resErr,if_pos q]
  ·rw[show keepF (x :: l)=x :: keepF l from List.filter_cons_of_pos (by simp[q]),resErr,resErr,if_neg q,if_neg q,ih]
def bagS (xs:List Ent):Int×List Ent:=if resErr 0 (sortL xs)=true then (2,[]) else (0,keepF (sortL xs))
theorem bagS_of {xs ys:List Ent}(h:AscE ys)(hc: ∀r,cnt ys r=cnt xs r):bagS xs=if resErr 0 ys=true then (2,[]) else (0,keepF ys):=by
 rw[bagS,<-resErr_keep (sortL xs),<-keep_unique h hc,resErr_keep]
theorem bagS_congr {xs ys:List Ent}(h: ∀r,cnt xs r=cnt ys r):bagS xs=bagS ys:=by
 rw[bagS_of (xs:=xs) (sortL_asc ys) λr=>by rw[sortL_cnt,h],bagS]
theorem resErr_iff: ∀(l:List Ent) (m:Nat),NoZ l->m<=4096->(resErr m l=false↔(∀x∈l, -65536<=x.count/\x.count<=65536)/\m+l.length<=4096)
 | [],m,_,hm=>by simp[resErr];omega
 |x :: l,m,h,hm=>by
  have hx:x.count≠0:=h x (by simp)
  rw[resErr,if_neg hx]
  by_cases q:m=4096
  ·subst q;simp
  ·have ih:=resErr_iff l (m+1) (λy hy=>h y (by simp[hy])) (by omega)
   simp only[Bool.or_eq_false_iff,decide_eq_false_iff_not,ih,List.mem_cons,List.length_cons,forall_eq_or_imp]
   constructor
   ·rintro ⟨⟨⟨a,b⟩,_⟩,c,d⟩;exact ⟨⟨⟨by omega,by omega⟩,c⟩,by omega⟩
   ·rintro ⟨⟨⟨a,b⟩,c⟩,d⟩;exact ⟨⟨⟨by omega,by omega⟩,q⟩,c,by omega⟩
theorem fe_zero {α:Type}{f:Nat->α->Int}: ∀{l:List α} {k:Nat},firstErr f k l=0↔ ∀j x,l[j]?=some x->f (k+j) x=0
 | [],k=>by simp[firstErr]
 |y :: l,k=>by
  have ih:=@fe_zero α f l (k+1)
  rw[firstErr]
  by_cases hy:f k y=0
  ·rw[if_neg (by simpa using hy),ih]
   constructor
   ·intro h j x hx
    cases j with
    |zero=>simp at hx;subst hx;exact hy
    |succ j=>have:=h j x (by simpa using hx);rw[show k+(j+1)=k+1+j by omega];exact this
   ·intro h j x hx
    have:=h (j+1) x (by simpa using hx)
    rw[show k+(j+1)=k+1+j by omega]at this;exact this
  ·rw[if_pos hy]
   constructor
   ·intro h;exact absurd h hy
   ·intro h;exact absurd (h 0 y (by simp)) hy
theorem bagErr1_zero {b:List Ent}{i:Nat}{x:Ent}:bagErr1 b i x=0↔entErr x=0/\x.count≠0/\(0<i->cmpRows (b.getD (i-1) default).row x.row<0):=by
 rw[bagErr1]
 by_cases h1:entErr x=0
 ·rw[if_neg (by simpa using h1)]
  by_cases h2:x.count=0
  ·simp[h1,h2]
  ·rw[if_neg h2]
   by_cases h3:0<i/\0<=cmpRows (b.getD (i-1) default).row x.row
   ·rw[if_pos h3]
    constructor
    ·intro q;omega
    ·rintro ⟨_,_,q⟩;have:=q h3.1;omega
   ·rw[if_neg h3]
    simp only[true_iff]
    exact ⟨h1,h2,λq=>by
     by_cases g:cmpRows (b.getD (i-1) default).row x.row<0
     ·exact g
     ·exact absurd ⟨q,by omega⟩ h3⟩
 ·rw[if_pos h1];simp[h1]
theorem asc_of_steps: ∀{l:List Ent},(∀j x y,l[j]?=some x->l[j+1]?=some y->cmpRows x.row y.row<0)->AscE l
 | [],_=>List.Pairwise.nil
 | [x],_=>List.pairwise_singleton _ _
 |x :: y :: l,h=>by
  have h1:=h 0 x y rfl rfl
  have ih:AscE (y :: l):=asc_of_steps λj a b ha hb=>h (j+1) a b (by simpa using ha) (by simpa using hb)
  refine List.pairwise_cons.2 ⟨λz hz=>?_,ih⟩
  rcases List.mem_cons.1 hz with rfl|hz
  ·exact h1
  ·exact cr_trans h1 (ih.head z hz)
theorem bagErr_iff {b:List Ent}:bagErr b=0↔b.length<=4096/\(∀x∈b,entErr x=0/\x.count≠0)/\AscE b:=by
 rw[bagErr]
 by_cases hl:4096<b.length
 ·rw[if_pos hl]
  constructor
  ·intro q;omega
  ·rintro ⟨q,_⟩;omega
 ·rw[if_neg hl,fe_zero]
  have hl':b.length<=4096:=by omega
  constructor
  ·intro h
   refine ⟨hl',λx hx=>?_,asc_of_steps λj x y hx hy=>?_⟩
   ·obtain ⟨j,hj⟩:=List.mem_iff_getElem?.1 hx
    have:=bagErr1_zero.1 (h j x hj)
    exact ⟨this.1,this.2.1⟩
   ·have:=(bagErr1_zero.1 (h (j+1) y hy)).2.2 (by omega)
    rw[show (0+(j+1)-1)=j by omega,List.getD_eq_getElem?_getD,hx]at this
    exact this
  ·rintro ⟨_,h1,h2⟩ j x hx
   have hm:=List.mem_iff_getElem?.2 ⟨j,hx⟩
   refine bagErr1_zero.2 ⟨(h1 x hm).1,(h1 x hm).2,λhj=>?_⟩
   obtain ⟨hlt,he⟩:=List.getElem?_eq_some_iff.1 hx
   have:=List.pairwise_iff_getElem.1 h2 (0+j-1) j (by omega) hlt (by omega)
   rw[he]at this
   rw[List.getD_eq_getElem?_getD,List.getElem?_eq_getElem (by omega)]
   exact this
theorem ent_cnt {x:Ent}(h:entErr x=0): -65536<=x.count/\x.count<=65536/\x.row.length<=12:=by
 rw[entErr]at h
 split at h
 ·omega
 ·omega
theorem bagS_bag {b:List Ent}(h:bagErr b=0):bagS b=(0,b):=by
 obtain ⟨h1,h2,h3⟩:=bagErr_iff.1 h
 have hz:NoZ b:=λx hx=>(h2 x hx).2
 rw[bagS_of h3 λ_=>rfl,if_neg,keepF_id hz]
 have:=(resErr_iff b 0 hz (by omega)).2 ⟨λx hx=>⟨(ent_cnt (h2 x hx).1).1,(ent_cnt (h2 x hx).1).2.1⟩,by omega⟩
 rw[this];simp
theorem sortL_rowsP {P:List Val->Prop}: ∀f (l:List Ent),(∀x∈l,P x.row)-> ∀x∈sortF f l,P x.row
 | 0,l,h=>h
 |f+1,l,h=>by
  rw[sortF]
  split
  ·exact h
  ·exact mergeF_rows _ _ _ (sortL_rowsP f _ λx hx=>h x (List.mem_of_mem_take hx)) (sortL_rowsP f _ λx hx=>h x (List.mem_of_mem_drop hx))
theorem bagS_rows {P:List Val->Prop}{xs:List Ent}(h: ∀x∈xs,P x.row): ∀x∈(bagS xs).2,P x.row:=by
 rw[bagS]
 split
 ·intro x hx;cases hx
 ·intro x hx;exact sortL_rowsP _ xs h x (keepF_sub x hx)
theorem bagS_err (xs:List Ent):(bagS xs).1=0\/((bagS xs).1=2/\(bagS xs).2=[]):=by
 rw[bagS];split <;> simp
theorem bagS_cnt {xs:List Ent}(h:(bagS xs).1=0)(r:List Val):cnt (bagS xs).2 r=cnt xs r:=by
 rw[bagS]at h⊢
 split
 ·rename_i q;rw[if_pos q]at h;cases h
 ·rw[keepF_cnt,sortL_cnt]
theorem entErr_row {x:Ent}:entErr x=0↔(-65536<=x.count/\x.count<=65536)/\x.row.length<=12/\ ∀v∈x.row,valid v=true:=by
 rw[entErr]
 split
 ·rename_i h
  constructor
  ·intro q;omega
  ·rintro ⟨q,q1,_⟩;omega
 ·rename_i h
  rw[fe_zero]
  constructor
  ·intro q
   refine ⟨by omega,by omega,λv hv=>?_⟩
   obtain ⟨j,hj⟩:=List.mem_iff_getElem?.1 hv
   have:=q j v hj
   split at this
   ·assumption
   ·omega
  ·rintro ⟨_,_,q⟩ j v hj
   rw[if_pos (q v (List.mem_iff_getElem?.2 ⟨j,hj⟩))]
theorem bagS_ok {xs:List Ent}(h: ∀x∈xs,entErr x=0):bagErr (bagS xs).2=0:=by
 have hr:=bagS_rows (P:=λr=>r.length<=12/\ ∀v∈r,valid v=true) (xs:=xs) λx hx=>(entErr_row.1 (h x hx)).2
 rw[bagS]at hr⊢
 split
 ·rfl
 ·rename_i q
  rw[if_neg q]at hr
  have q:resErr 0 (keepF (sortL xs))=false:=by rw[resErr_keep];simpa using q
  obtain ⟨h1,h2⟩:=(resErr_iff _ 0 (keepF_noz _) (by omega)).1 q
  exact bagErr_iff.2 ⟨by simpa using h2,λx hx=>⟨entErr_row.2 ⟨h1 x hx,hr x hx⟩,keepF_noz _ x hx⟩,keepF_asc (sortL_asc _)⟩
def cntF:List Ent->List Val->Int
 | [],_=>0
 |x :: l,r=>if cmpRows x.row r=0 then x.count else cntF l r
theorem AscE.cntF {l:List Ent}(h:AscE l)(r:List Val):Proofs.YtggejcekmehocaaGreatDoor.cntF l r=cnt l r:=by
 induction l with
 |nil=>rfl
 |cons x l ih=>
  rw[Proofs.YtggejcekmehocaaGreatDoor.cntF,cnt]
  by_cases q:cmpRows x.row r=0
  ·rw[if_pos q,if_pos q]
   have:=h.head_zero
   rw[cr_zero.1 q]at this
   omega
  ·rw[if_neg q,if_neg q,ih h.tail];omega
end Go.Proofs.YtggejcekmehocaaGreatDoor
