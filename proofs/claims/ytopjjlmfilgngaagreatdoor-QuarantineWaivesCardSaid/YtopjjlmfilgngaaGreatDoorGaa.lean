/-
  How data lies in memory: a class 'Rep' (what cells of a world a datum reads as), with its instances for ints, bools, strings, slices and the structs of package api; its frame; and the road from the claim's own reading ('DataW.trod') to it. No program is in sight. Plain functions, no program in sight: the values, columns, rows, bags and relations of chapters 1, 5, 6 and 19, as both texts compute them. Plain functions, no program in sight: expressions (chapter 8), their types and values (chapter 9), zones and days (chapter 4), checked arithmetic (chapter 2), as both texts compute them. Plain functions, no program in sight: merging, sorting and normalizing lists of entries (chapter 6), as the reference does it. Plain law: the orders of strings, values and rows are total orders. No program is in sight. Plain law of bags: a bag is told by its counts; merging and sorting add counts; Normalize's answer depends on the counts alone. No program is in sight. Plain: the count that the first equal row has.
-/
import Derived.WalkKit
import Derived.Deep.Slices
import Derived.ChangeSame
namespace Go.Proofs.YtopjjlmfilgngaaGreatDoor
set_option linter.unusedVariables false
set_option linter.unusedSimpArgs false
open Go.RowKit Go.ChangeShapes Go.WideShapes
def Same (S:Nat->Prop)(w w':World):Prop:= ∀k,S k->w'.heap[k]?=w.heap[k]?
theorem Same.refl (S:Nat->Prop)(w:World):Same S w w:=λ_ _=>rfl
theorem Same.trans {S:Nat->Prop}{a b c:World}(h:Same S a b)(h':Same S b c):Same S a c:=λk hk=>(h' k hk).trans (h k hk)
theorem Same.sub {S T:Nat->Prop}{a b:World}(h:Same T a b)(hs: ∀k,S k->T k):Same S a b:=λk hk=>h k (hs k hk)
theorem Same.below {B:Nat}{w w':World}(h:Below B w w'):Same (· < B) w w':=λk hk=>h.block k hk
theorem Same.cell {S:Nat->Prop}{w w':World}(h:Same S w w'){a:Addr}(ha:S a.block):w'.cell? a=w.cell? a:=World.cell?_of_block (w:=w) (h _ ha)
class Rep (α:Type) where
 size:Nat
 rd:World->(Nat->Prop)->List Value->α->Prop
 len: ∀{w:World} {S:Nat->Prop} {cs:List Value} {a:α},rd w S cs a->cs.length=size
 keep: ∀{w w':World} {S:Nat->Prop} {cs:List Value} {a:α},Same S w w'->rd w S cs a->rd w' S cs a
 mono: ∀{w:World} {S T:Nat->Prop} {cs:List Value} {a:α},(∀k,S k->T k)->rd w S cs a->rd w T cs a
def eZ (n:Int):Prop:= -9223372036854775808<=n/\n<=9223372036854775807
instance:Rep Int where
 size:=1
 rd _ _ cs n:=cs=[.int .i64 n]/\eZ n
 len h:=by rw[h.1];rfl
 keep _ h:=h
 mono _ h:=h
instance:Rep Bool where
 size:=1
 rd _ _ cs b:=cs=[.bool b]
 len h:=by rw[h];rfl
 keep _ h:=h
 mono _ h:=h
instance:Rep ByteArray where
 size:=1
 rd _ _ cs s:=cs=[.string s]/\s.size<=9223372036854775807
 len h:=by rw[h.1];rfl
 keep _ h:=h
 mono _ h:=h
def At {α:Type}[Rep α](w:World)(S:Nat->Prop)(b off:Nat)(a:α):Prop:=
 ∃cs:List Value,Rep.rd w S cs a/\ ∀j,(hj:j<cs.length)->w.cell? ⟨b,off+j,none⟩=some cs[j]
theorem At.keep {α:Type}[Rep α]{w w':World}{S:Nat->Prop}{b off:Nat}{a:α}(hb:S b)(hs:Same S w w')(h:At w S b off a):At w' S b off a:=by
 obtain ⟨cs,h1,h2⟩:=h;exact ⟨cs,Rep.keep hs h1,λj hj=>(hs.cell (a:=⟨b,off+j,none⟩) hb).trans (h2 j hj)⟩
theorem At.mono {α:Type}[Rep α]{w:World}{S T:Nat->Prop}{b off:Nat}{a:α}(hs: ∀k,S k->T k)(h:At w S b off a):At w T b off a:=by
 obtain ⟨cs,h1,h2⟩:=h;exact ⟨cs,Rep.mono hs h1,h2⟩
def Sl {α:Type}[Rep α](w:World)(S:Nat->Prop)(A:Option Addr)(n c:Nat)(xs:List α):Prop:=
 xs.length=n/\n<=c/\c<=9223372036854775807/\(A=none->c=0)/\
  (0<n-> ∃b off,A=some ⟨b,off,none⟩/\S b/\ ∀i,(hi:i<xs.length)->At w S b (off+i*Rep.size α) xs[i])
section
variable {α:Type}[Rep α]{w w':World}{S T:Nat->Prop}{A:Option Addr}{n c:Nat}{xs:List α}
theorem Sl.keep (hs:Same S w w')(h:Sl w S A n c xs):Sl w' S A n c xs:=by
 refine ⟨h.1,h.2.1,h.2.2.1,h.2.2.2.1,λhn=>?_⟩;obtain ⟨b,off,e,hb,hi⟩:=h.2.2.2.2 hn;exact ⟨b,off,e,hb,λi h'=>(hi i h').keep hb hs⟩
theorem Sl.mono (hs: ∀k,S k->T k)(h:Sl w S A n c xs):Sl w T A n c xs:=by
 refine ⟨h.1,h.2.1,h.2.2.1,h.2.2.2.1,λhn=>?_⟩;obtain ⟨b,off,e,hb,hi⟩:=h.2.2.2.2 hn;exact ⟨b,off,e,hs _ hb,λi h'=>(hi i h').mono hs⟩
theorem Sl.len (h:Sl w S A n c xs):xs.length=n:=h.1
theorem Sl.nil_:Sl (α:=α) w S none 0 0 []:=⟨rfl,Nat.le_refl _,by omega,λ_=>rfl,λh=>absurd h (by omega)⟩
theorem Sl.empty (h:c<=9223372036854775807)(hA:A=none->c=0):Sl (α:=α) w S A 0 c []:=⟨rfl,by omega,h,hA,λh=>absurd h (by omega)⟩
end
instance {α:Type} [Rep α]:Rep (List α) where
 size:=1
 rd w S cs xs:= ∃A n c,cs=[.slice A n c]/\Sl w S A n c xs
 len h:=by obtain ⟨A,n,c,rfl,_⟩:=h;rfl
 keep hs h:=by obtain ⟨A,n,c,rfl,h⟩:=h;exact ⟨A,n,c,rfl,h.keep hs⟩
 mono hs h:=by obtain ⟨A,n,c,rfl,h⟩:=h;exact ⟨A,n,c,rfl,h.mono hs⟩
def EI (P:Program)(t:TypeId)(α:Type)[Rep α]:Prop:=
 ∀(H:Type) (enc:TypeId×Value->H) (w:World) (spare:Nat->Bool) (held:Bool) (fuel:Nat) (cs:List Value) (y:DataW H×List MemPlace),
  DataW.trod enc P w 0 spare held fuel t cs=some y-> ∃a:α,Rep.rd w (· < w.heap.size) cs a
section
variable {P:Program}{t e:TypeId}
theorem wf_i64 {n:Int}(h:(Lit.int .i64 n).wf=true):eZ n:=by
 simp[Lit.wf,IntKind.min,IntKind.max,IntKind.signed,IntKind.bits]at h;unfold eZ;omega
theorem KV (h:P.underlying t=some (.int .i64)):EI P t Int:=λ_ _ _ _ _ _ _ _ hy=>by
 obtain ⟨n,hc,_,hw⟩:=DataW.trod_int h hy;exact ⟨n,hc,wf_i64 hw⟩
theorem lt_of_cell {w:World}{a:Addr}{v:Value}(h:w.cell? a=some v):a.block<w.heap.size:=block_lt_of_cell h
theorem FY {α:Type}[Rep α][Inhabited α](h:P.underlying t=some (.slice e))(hsz:P.cellsOf e=Rep.size α)(hpos:0<Rep.size α)(he:EI P e α):EI P t (List α):=λH enc w spare held fuel cs y hy=>by
 rcases Go.Deep.open_slice h hy with ⟨hc,_⟩|⟨a,len,cap,m,n,D,Pl,hcs,hb,hl,hm,hmm,hx,hi⟩
 ·exact ⟨[],none,0,0,hc,Sl.nil_⟩
 ·have hmax:cap<=9223372036854775807:=by unfold maxLen at hm;omega
  have hm':len<=m:=by rw[hmm];split <;> omega
  have H1: ∀i,i<len-> ∃x:α,∃cs',w.cells? 0 (a.add (i*P.cellsOf e)) (P.cellsOf e)=some cs'/\Rep.rd w (· < w.heap.size) cs' x:=λi hil=>by
   obtain ⟨cs',hc',ht⟩:=hi i (by omega);obtain ⟨x,hx⟩:=he H enc w spare held n cs' _ ht;exact ⟨x,cs',hc',hx⟩
  obtain ⟨f,hf⟩:=Go.Deep.choose_lt H1;refine ⟨(List.range len).map f,some a,len,cap,hcs,by simp,hl,hmax,(λh=>by cases h),λhn=>?_⟩;have hspot:a.spot=none:=by
   obtain ⟨cs',hc',hr⟩:=hf 0 hn;obtain ⟨_,hlen,hcell⟩:=World.cells?_some hc';have h0:=hcell 0 (by omega);rw[List.getElem?_eq_getElem (by omega)]at h0;have:=World.cell?_spot h0;simpa[Addr.add] using this
  obtain ⟨b,off,spot⟩:=a;obtain rfl:spot=none:=hspot;have hblk:b<w.heap.size:=by
   obtain ⟨cs',hc',hr⟩:=hf 0 hn;obtain ⟨_,hlen,hcell⟩:=World.cells?_some hc';have h0:=hcell 0 (by omega);rw[List.getElem?_eq_getElem (by omega)]at h0;have:=lt_of_cell h0;simpa[Addr.add] using this
  refine ⟨b,off,rfl,hblk,λi hi'=>?_⟩;have hil:i<len:=by simpa using hi'
  obtain ⟨cs',hc',hr⟩:=hf i hil;obtain ⟨_,hlen,hcell⟩:=World.cells?_some hc';refine ⟨cs',by simpa using hr,λj hj=>?_⟩;have:=hcell j (by omega);rw[List.getElem?_eq_getElem hj]at this;rw[<-this]
  congr 1
  unfold Addr.add;by_cases h1:i*P.cellsOf e=0 <;> by_cases h2:j=0 <;> simp_all[Nat.add_assoc]
end
structure Val where
 kind:Int
 num:Int
 str:ByteArray
structure Col where
 name:ByteArray
 kind:Int
 nullable:Bool
structure Ent where
 row:List Val
 count:Int
structure Rel where
 name:ByteArray
 columns:List Col
 keys:List (List ByteArray)
 rows:List Ent
structure Shift where
 at_:Int
 offset:Int
structure Zone where
 name:ByteArray
 offset:Int
 shifts:List Shift
structure Node where
 op:Int
 value:Val
 name:ByteArray
 arity:Int
instance:Inhabited Val:=⟨⟨0,0,ByteArray.empty⟩⟩
instance:Inhabited Col:=⟨⟨ByteArray.empty,0,false⟩⟩
instance:Inhabited Ent:=⟨⟨[],0⟩⟩
instance:Inhabited Shift:=⟨⟨0,0⟩⟩
instance:Inhabited Zone:=⟨⟨ByteArray.empty,0,[]⟩⟩
instance:Inhabited Node:=⟨⟨0,default,ByteArray.empty,0⟩⟩
def Str (s:ByteArray):Prop:=s.size<=9223372036854775807
def Val.ok (v:Val):Prop:=eZ v.kind/\eZ v.num/\Str v.str
def Col.ok (c:Col):Prop:=Str c.name/\eZ c.kind
def GG (op:Int):Prop:=op=1\/op=12\/op=13
def Node.ok (n:Node):Prop:=eZ n.op/\n.value.ok/\Str n.name/\eZ n.arity/\GG n.op
def Val.cells (v:Val):List Value:=[.int .i64 v.kind,.int .i64 v.num,.string v.str]
def Col.cells (c:Col):List Value:=[.string c.name,.int .i64 c.kind,.bool c.nullable]
def Shift.cells (s:Shift):List Value:=[.int .i64 s.at_,.int .i64 s.offset]
def Node.cells (n:Node):List Value:=[.int .i64 n.op,.int .i64 n.value.kind,.int .i64 n.value.num,.string n.value.str,.string n.name,.int .i64 n.arity]
instance:Rep Val where
 size:=3
 rd _ _ cs v:=cs=v.cells/\v.ok
 len h:=by rw[h.1];rfl
 keep _ h:=h
 mono _ h:=h
instance:Rep Col where
 size:=3
 rd _ _ cs v:=cs=v.cells/\v.ok
 len h:=by rw[h.1];rfl
 keep _ h:=h
 mono _ h:=h
instance:Rep Shift where
 size:=2
 rd _ _ cs v:=cs=v.cells/\eZ v.at_/\eZ v.offset
 len h:=by rw[h.1];rfl
 keep _ h:=h
 mono _ h:=h
instance:Rep Node where
 size:=6
 rd _ _ cs v:=cs=v.cells/\v.ok
 len h:=by rw[h.1];rfl
 keep _ h:=h
 mono _ h:=h
instance:Rep Ent where
 size:=2
 rd w S cs x:= ∃A n c,cs=[.slice A n c,.int .i64 x.count]/\Sl w S A n c x.row/\eZ x.count
 len h:=by obtain ⟨A,n,c,rfl,_⟩:=h;rfl
 keep hs h:=by obtain ⟨A,n,c,rfl,h,hc⟩:=h;exact ⟨A,n,c,rfl,h.keep hs,hc⟩
 mono hs h:=by obtain ⟨A,n,c,rfl,h,hc⟩:=h;exact ⟨A,n,c,rfl,h.mono hs,hc⟩
instance:Rep Zone where
 size:=3
 rd w S cs x:= ∃A n c,cs=[.string x.name,.int .i64 x.offset,.slice A n c]/\Sl w S A n c x.shifts/\Str x.name/\eZ x.offset
 len h:=by obtain ⟨A,n,c,rfl,_⟩:=h;rfl
 keep hs h:=by obtain ⟨A,n,c,rfl,h,hc⟩:=h;exact ⟨A,n,c,rfl,h.keep hs,hc⟩
 mono hs h:=by obtain ⟨A,n,c,rfl,h,hc⟩:=h;exact ⟨A,n,c,rfl,h.mono hs,hc⟩
instance:Rep Rel where
 size:=4
 rd w S cs x:= ∃A n c A' n' c' aX n'' c'',cs=[.string x.name,.slice A n c,.slice A' n' c',.slice aX n'' c'']/\Sl w S A n c x.columns/\Sl w S A' n' c' x.keys/\Sl w S aX n'' c'' x.rows/\Str x.name
 len h:=by obtain ⟨_,_,_,_,_,_,_,_,_,rfl,_⟩:=h;rfl
 keep hs h:=by obtain ⟨A,n,c,A',n',c',aX,n'',c'',rfl,h1,h2,h3,h4⟩:=h;exact ⟨A,n,c,A',n',c',aX,n'',c'',rfl,h1.keep hs,h2.keep hs,h3.keep hs,h4⟩
 mono hs h:=by obtain ⟨A,n,c,A',n',c',aX,n'',c'',rfl,h1,h2,h3,h4⟩:=h;exact ⟨A,n,c,A',n',c',aX,n'',c'',rfl,h1.mono hs,h2.mono hs,h3.mono hs,h4⟩
section
variable {P:Program}{t:TypeId}
variable {f0 f1 f2 f3:Field}
end
def iP (a b:Int):Int:=if a<b then -1 else if b<a then 1 else 0
def iE (a b:ByteArray):Int:=if Op.bytesLess a.toList b.toList=true then -1 else if a.toList=b.toList then 0 else 1
def bA (a b:Val):Int:=if iP a.kind b.kind≠0 then iP a.kind b.kind else if iP a.num b.num≠0 then iP a.num b.num else iE a.str b.str
def aA:List Val->List Val->Int
 | [],[]=>0
 | [],_ :: _=> -1
 | _ :: _,[]=>1
 |a :: l,b :: m=>if bA a b≠0 then bA a b else aA l m
def ek (s:ByteArray):Bool:=s.toList.isEmpty
def valid (v:Val):Bool:=
 if v.kind=0 then (v.num==0)&&ek v.str
 else if v.kind=1 then ek v.str&&(v.num==0 || v.num==1)
 else if v.kind=2 then ek v.str&&(decide (-1073741824<=v.num)&&decide (v.num<=1073741824))
 else if v.kind=3 then (v.num==0)&&decide (v.str.size<=64)
 else if v.kind=4 then ek v.str&&(decide (0<=v.num)&&decide (v.num<=575999999))
 else false
def eY (s:ByteArray)(i:Nat):Nat:=(s.data.toList.getD i 0).toNat
def iq (c:Nat)(i:Nat):Bool:=(decide (97<=c)&&decide (c<=122)) || (decide (0<i)&&(decide (c=95) || (decide (48<=c)&&decide (c<=57))))
def gD (s:ByteArray):Nat->Nat->Bool
 | 0,_=>true
 |b+1,i=>iq (eY s i) i&&gD s b (i+1)
def bV (s:ByteArray):Bool:=decide (s.size<=24)&&(gD s s.size 0&&decide (0<s.size))
def aR (name:ByteArray):Nat->List Col->Int
 | _,[]=> -1
 |k,c :: l=>if c.name.toList==name.toList then k else aR name (k+1) l
def index (cols:List Col)(name:ByteArray):Int:=aR name 0 cols
def gK (cols:List Col)(i:Nat)(c:Col):Int:=
 if bV c.name=false then 4 else if c.kind<1\/4<c.kind then 7 else if index cols c.name<i then 6 else 0
def ai {α:Type}(f:Nat->α->Int):Nat->List α->Int
 | _,[]=>0
 |k,x :: l=>if f k x≠0 then f k x else ai f (k+1) l
def aC (cols:List Col):Int:=if cols.length<1\/12<cols.length then 2 else ai (gK cols) 0 cols
def bZ (c:Col)(v:Val):Int:=
 if valid v=false then 8 else if (v.kind=0/\c.nullable=false)\/(v.kind≠0/\v.kind≠c.kind) then 7 else 0
def aG (cols:List Col)(row:List Val):Int:=
 if row.length≠cols.length then 8 else ai (λi v=>bZ (cols.getD i default) v) 0 row
def aV (x:Ent):Int:=
 if 12<x.row.length\/x.count < -65536\/65536<x.count then 2 else ai (λ_ v=>if valid v then 0 else 8) 0 x.row
def dF (b:List Ent)(i:Nat)(x:Ent):Int:=
 if aV x≠0 then aV x else if x.count=0 then 8 else if 0<i/\0<=aA (b.getD (i-1) default).row x.row then 14 else 0
def aL (b:List Ent):Int:=if 4096<b.length then 2 else ai (dF b) 0 b
def dZ (b:List Ent):Bool:=aL b==0&&b.all λx=>decide (0<=x.count)
def lT (n:Int):Bool:=decide (-840<=n)&&decide (n<=840)
def eB (l:List Shift)(i:Nat)(s:Shift):Int:=
 if s.at_<1\/575999999<s.at_\/lT s.offset=false then 1 else if 0<i/\s.at_<=((l[i-1]?).map Shift.at_).getD 0 then 14 else 0
def aZ (l:List Shift):Nat->List Shift->Int
 | _,[]=>0
 |k,x :: r=>if eB l k x≠0 then eB l k x else aZ l (k+1) r
def aP (z:Zone):Int:=if 64<z.shifts.length then 2 else if lT z.offset=false then 1 else aZ z.shifts 0 z.shifts
def Ba (l:List Zone):Int:=ai (λ_ z=>aP z) 0 l
def jI (name:ByteArray):Nat->List Zone->Int
 | _,[]=> -1
 |k,z :: l=>if z.name.toList==name.toList then k else jI name (k+1) l
def jB (zs:List Zone)(name:ByteArray):Int:=jI name 0 zs
def lh (zs:List Zone)(name:ByteArray):Zone:=if jB zs name<0 then default else zs.getD (jB zs name).toNat default
def rE (t o:Int):Int:=if t+o<0 then -1 else (t+o) / 1440
def si (t:Int):List Shift->Int->Int->Int
 | [],best,o=>max best (rE t o)
 |s :: l,best,o=>if t<s.at_ then max best (rE t o) else si t l (max best (rE (s.at_-1) o)) s.offset
def Jl (z:Zone)(t:Int):Int:=si t z.shifts 0 z.offset
def yL (z:Zone)(t:Int):Int:=if aP z≠0 then aP z else if t<0\/575999999<t then 1 else 0
def Tn (z:Zone)(t:Int):Int×Int:=if yL z t≠0 then (0,yL z t) else (Jl z t,0)
def eD:List UInt8->Nat
 | []=>0
 |c :: l=>if c=46 then 0 else eD l+1
def qJ (s:ByteArray):Nat:=eD s.toList
def gN (s:ByteArray):Bool:=
 if qJ s<s.size then bV (s.extract 0 (qJ s))&&bV (s.extract (qJ s+1) s.size) else bV s
def jA (l:List ByteArray)(s:ByteArray):Bool:=l.any λx=>x.toList==s.toList
def words:List ByteArray:=[⟨#[97,110,100]⟩,⟨#[111,114]⟩,⟨#[110,111,116]⟩,⟨#[110,117,108,108]⟩,⟨#[116,114,117,101]⟩,⟨#[102,97,108,115,101]⟩,⟨#[98,121]⟩,⟨#[115,101,108,102]⟩]
def qW:List ByteArray:=[⟨#[105,102]⟩,⟨#[99,111,97,108,101,115,99,101]⟩,⟨#[105,115,110,117,108,108]⟩,⟨#[108,101,110,103,116,104]⟩,⟨#[100,97,121]⟩]
def nD (s:ByteArray):Bool:=jA words s
def nC (s:ByteArray):Bool:=jA qW s
def arity (op ar:Int):Int:=
 if op=0\/op=1 then 0 else if op=2\/op=3\/op=16\/op=19\/op=20 then 1 else if op=17 then 3 else if op=21 then ar else if 4<=op/\op<=18 then 2 else -1
def iw (v:Val):Bool:=v.kind==0&&v.num==0&&ek v.str
def shaped (n:Node):Bool:=
 if n.op=0 then valid n.value&&ek n.name&&n.arity==0
 else iw n.value&&
  (if n.op=21 then gN n.name&&!nC n.name&&!nD n.name&&(decide (0<=n.arity)&&decide (n.arity<=8))
   else n.arity==0&&(if n.op=1 then bV n.name&&!nD n.name else if n.op=20 then gN n.name&&!nD n.name else ek n.name&&decide (0<=arity n.op n.arity)))
def raise (l:List Int):Int:=l.foldl (λh x=>max h (1+x)) 1
def kY (n:Node)(len:Nat):Nat:=len-(arity n.op n.arity).toNat
def aS:List Int->List Node->Int
 |st,[]=>if st.length≠1 then 8 else 0
 |st,n :: l=>
  if shaped n=false\/(st.length:Int)<arity n.op n.arity then 8
  else if 64<raise (st.drop (kY n st.length)) then 2
  else aS (st.take (kY n st.length)++[raise (st.drop (kY n st.length))]) l
def bK (e:List Node):Int:=if 256<e.length then 2 else aS [] e
structure Kd where
 kind:Int
 null:Bool
instance:Inhabited Kd:=⟨⟨0,false⟩⟩
def fits (x:Kd)(k:Int):Bool:=x.kind==k || x.kind==0
def common (a b:Kd):Int×Bool:=if a.kind=0 then (b.kind,true) else (a.kind,fits b a.kind)
def qB (op:Int)(x:Kd):Kd×Bool:=
 if op=2 then (⟨1,x.null⟩,fits x 1) else if op=3 then (⟨2,x.null⟩,fits x 2) else if op=16 then (⟨1,false⟩,true) else if op=19 then (⟨2,x.null⟩,fits x 3) else (⟨2,x.null⟩,fits x 4)
def aM (op:Int)(x y:Kd):Kd×Bool:=
 if op=4 then (if x.kind=4 then (⟨4,true⟩,fits y 2) else (⟨2,true⟩,fits x 2&&fits y 2))
 else if op=5 then (if y.kind=4 then (⟨2,x.null || y.null⟩,fits x 4) else if x.kind=4 then (⟨4,true⟩,fits y 2) else (⟨2,true⟩,fits x 2&&fits y 2))
 else if op=6\/op=7\/op=8 then (⟨2,true⟩,fits x 2&&fits y 2)
 else if op=9 then (⟨3,true⟩,fits x 3&&fits y 3)
 else if op=14\/op=15 then (⟨1,x.null || y.null⟩,fits x 1&&fits y 1)
 else if op=18 then (⟨(common x y).1,x.null&&y.null⟩,(common x y).2)
 else (⟨1,x.null || y.null⟩,(common x y).2)
def di (n:Node):List Kd->Kd×Bool
 | []=>(⟨n.value.kind,n.value.kind==0⟩,true)
 | [x]=>qB n.op x
 | [x,y]=>aM n.op x y
 |x :: y :: z :: _=>(⟨(common y z).1,y.null || z.null⟩,(common y z).2&&fits x 1)
def bC (cols:List Col)(zs:List Zone)(n:Node)(xs:List Kd):Int×Kd:=
 if n.op=1 then (if index cols n.name<0 then (5,default) else (0,⟨(cols.getD (index cols n.name).toNat default).kind,(cols.getD (index cols n.name).toNat default).nullable⟩))
 else if n.op=21 then (5,default)
 else if n.op=20/\jB zs n.name<0 then (5,default)
 else if (di n xs).2=false then (7,default) else (0,(di n xs).1)
def aQ (cols:List Col)(zs:List Zone):List Kd->List Node->Int×Kd
 |st,[]=>(0,st.headD default)
 |st,n :: l=>
  if (bC cols zs n (st.drop (kY n st.length))).1≠0 then ((bC cols zs n (st.drop (kY n st.length))).1,default)
  else aQ cols zs (st.take (kY n st.length)++[(bC cols zs n (st.drop (kY n st.length))).2]) l
def bI (e:List Node)(cols:List Col)(zs:List Zone):Int:=
 if bK e≠0 then bK e else if aC cols≠0 then aC cols else Ba zs
def bU (e:List Node)(cols:List Col)(zs:List Zone):Int×Kd:=
 if bI e cols zs≠0 then (bI e cols zs,default) else aQ cols zs [] e
def bG:Val:=⟨0,0,⟨#[]⟩⟩
def fw (b:Bool):Val:=⟨1,if b then 1 else 0,⟨#[]⟩⟩
def jQ (n:Int)(ok:Bool):Val:=if ok then ⟨2,n,⟨#[]⟩⟩ else bG
def sS (n:Int):Val:=if n<0\/575999999<n then bG else ⟨4,n,⟨#[]⟩⟩
def truth (v:Val):Int:=if v.kind=1/\valid v=true then v.num else -1
def DU (a b:Val)(stop:Int):Val:=
 if truth a=stop\/truth b=stop then fw (stop==1) else if truth a<0\/truth b<0 then bG else fw (stop==0)
def bO (n:Int):Bool:=decide (-1073741824<=n)&&decide (n<=1073741824)
def vV (a b:Int):Int×Bool:=if bO a&&bO b&&bO (a+b) then (a+b,true) else (0,false)
def mR (a b:Int):Int×Bool:=if bO a&&bO b&&bO (a-b) then (a-b,true) else (0,false)
def wJ (a b:Int):Int×Bool:=if bO a&&bO b&&bO (a*b) then (a*b,true) else (0,false)
def tV (a b:Int):Int×Bool:=if bO a&&bO b&&b != 0 then (a.fdiv b,true) else (0,false)
def uj (a b:Int):Int×Bool:=if bO a&&bO b&&b != 0 then (a.fmod b,true) else (0,false)
def jy (op:Int)(x y:Val):Val:=
 if op=4 then (if x.kind=4 then sS (x.num+y.num) else jQ (vV x.num y.num).1 (vV x.num y.num).2)
 else if op=5 then (if x.kind=4/\y.kind=2 then sS (x.num-y.num) else jQ (mR x.num y.num).1 (mR x.num y.num).2)
 else if op=6 then jQ (wJ x.num y.num).1 (wJ x.num y.num).2
 else if op=7 then jQ (tV x.num y.num).1 (tV x.num y.num).2
 else jQ (uj x.num y.num).1 (uj x.num y.num).2
def dX (op:Int)(x y:Val):Val:=
 if op=9 then (if 64<(x.str++y.str).size then bG else ⟨3,0,x.str++y.str⟩)
 else if op=10 then fw (bA x y==0)
 else if op=11 then fw (bA x y != 0)
 else if op=12 then fw (decide (bA x y<0))
 else if op=13 then fw (decide (bA x y<=0))
 else jy op x y
def Li (zs:List Zone)(op:Int)(name:ByteArray)(x:Val):Val:=
 if op=16 then fw (x.kind==0) else if x.kind=0 then bG else if op=2 then fw (x.num==0) else if op=3 then jQ (mR 0 x.num).1 (mR 0 x.num).2
 else if op=19 then jQ x.str.size true else jQ (Tn (lh zs name) x.num).1 true
def uk (zs:List Zone)(n:Node):List Val->Val
 | []=>n.value
 | [x]=>Li zs n.op n.name x
 | [x,y]=>if n.op=14 then DU x y 0 else if n.op=15 then DU x y 1 else if n.op=18 then (if x.kind=0 then y else x) else if x.kind=0\/y.kind=0 then bG else dX n.op x y
 |x :: y :: z :: _=>if truth x=1 then y else z
def iI (cols:List Col)(row:List Val)(zs:List Zone)(n:Node)(xs:List Val):Val:=
 if n.op=1 then row.getD (index cols n.name).toNat bG else uk zs n xs
def iJ (cols:List Col)(row:List Val)(zs:List Zone):List Val->List Node->Val
 |st,[]=>st.headD bG
 |st,n :: l=>iJ cols row zs (st.take (kY n st.length)++[iI cols row zs n (st.drop (kY n st.length))]) l
def gW (e:List Node)(cols:List Col)(row:List Val)(zs:List Zone):Int×Val:=
 if (bU e cols zs).1≠0 then ((bU e cols zs).1,bG) else if aG cols row≠0 then (aG cols row,bG) else (0,iJ cols row zs [] e)
def dE:Nat->List Ent->List Ent->List Ent
 | 0,_,_=>[]
 | _+1,[],[]=>[]
 |f+1,[],y :: ys=>y :: dE f [] ys
 |f+1,x :: xs,[]=>x :: dE f xs []
 |f+1,x :: xs,y :: ys=>
  if aA x.row y.row<0 then x :: dE f xs (y :: ys)
  else if 0<aA x.row y.row then y :: dE f (x :: xs) ys
  else ⟨x.row,x.count+y.count⟩ :: dE f xs ys
def bW (xs ys:List Ent):List Ent:=dE (xs.length+ys.length) xs ys
def uD (C:Int)(l:List Ent):Prop:= ∀x∈l, -C<=x.count/\x.count<=C
theorem gB: ∀f xs ys,xs.length+ys.length<=f->dE f xs ys=dE (xs.length+ys.length) xs ys
 | 0,xs,ys,h=>by rw[show xs.length+ys.length=0 from by omega]
 |f+1,[],[],_=>by simp[dE]
 |f+1,[],y :: ys,h=>by
  simp only[List.length_nil,List.length_cons,Nat.zero_add]at h⊢;rw[dE,dE,gB f [] ys (by simp;omega)];simp
 |f+1,x :: xs,[],h=>by
  simp only[List.length_nil,List.length_cons,Nat.add_zero]at h⊢;rw[dE,dE,gB f xs [] (by simp;omega)];simp
 |f+1,x :: xs,y :: ys,h=>by
  simp only[List.length_cons]at h⊢;rw[show xs.length+1+(ys.length+1)=(xs.length+(ys.length+1))+1 from by omega,dE,dE];rw[gB f xs (y :: ys) (by simp;omega),gB f (x :: xs) ys (by simp;omega),gB f xs ys (by omega)];rw[gB (xs.length+(ys.length+1)) (x :: xs) ys (by simp;omega),gB (xs.length+(ys.length+1)) xs ys (by omega)];simp
theorem ui:bW [] []=[]:=rfl
theorem l6 (y:Ent)(ys:List Ent):bW [] (y :: ys)=y :: bW [] ys:=by
 unfold bW;simp only[List.length_nil,List.length_cons,Nat.zero_add];rw[dE]
theorem nH (x:Ent)(xs:List Ent):bW (x :: xs) []=x :: bW xs []:=by
 unfold bW;simp only[List.length_nil,List.length_cons,Nat.add_zero];rw[dE]
theorem nG (x y:Ent)(xs ys:List Ent):bW (x :: xs) (y :: ys)=
  if aA x.row y.row<0 then x :: bW xs (y :: ys) else if 0<aA x.row y.row then y :: bW (x :: xs) ys else ⟨x.row,x.count+y.count⟩ :: bW xs ys:=by
 unfold bW;simp only[List.length_cons];rw[show xs.length+1+(ys.length+1)=(xs.length+(ys.length+1))+1 from by omega,dE];rw[gB (xs.length+(ys.length+1)) (x :: xs) ys (by simp;omega),gB (xs.length+(ys.length+1)) xs ys (by omega)];simp
theorem kW: ∀n xs ys,xs.length+ys.length<=n->(bW xs ys).length<=xs.length+ys.length
 | 0,xs,ys,h=>by
  rw[List.eq_nil_of_length_eq_zero (show xs.length=0 by omega),List.eq_nil_of_length_eq_zero (show ys.length=0 by omega)];simp[ui]
 |n+1,[],[],_=>by simp[ui]
 |n+1,[],y :: ys,h=>by
  have:=kW n [] ys (by simp at h⊢;omega);rw[l6];simp at*;omega
 |n+1,x :: xs,[],h=>by
  have:=kW n xs [] (by simp at h⊢;omega);rw[nH];simp at*;omega
 |n+1,x :: xs,y :: ys,h=>by
  have h1:=kW n xs (y :: ys) (by simp at h⊢;omega);have h2:=kW n (x :: xs) ys (by simp at h⊢;omega);have h3:=kW n xs ys (by simp at h⊢;omega);rw[nG]
  split
  ·simp at*;omega
  ·split
   ·simp at*;omega
   ·simp at*;omega
theorem kV {C D:Int}(hC:0<=C)(hD:0<=D): ∀n xs ys,xs.length+ys.length<=n->uD C xs->uD D ys->uD (C+D) (bW xs ys)
 | 0,xs,ys,h,_,_=>by
  rw[List.eq_nil_of_length_eq_zero (show xs.length=0 by omega),List.eq_nil_of_length_eq_zero (show ys.length=0 by omega)];intro x hx;cases hx
 |n+1,[],[],_,_,_=>by intro x hx;cases hx
 |n+1,[],y :: ys,h,hx,hy=>by
  rw[l6];have ih:=kV hC hD n [] ys (by simp at h⊢;omega) hx (λz hz=>hy z (List.mem_cons_of_mem _ hz));intro z hz;cases hz with
  |head=>have:=hy y (List.mem_cons_self ..);omega
  |tail _ hz=>exact ih z hz
 |n+1,x :: xs,[],h,hx,hy=>by
  rw[nH];have ih:=kV hC hD n xs [] (by simp at h⊢;omega) (λz hz=>hx z (List.mem_cons_of_mem _ hz)) hy;intro z hz;cases hz with
  |head=>have:=hx x (List.mem_cons_self ..);omega
  |tail _ hz=>exact ih z hz
 |n+1,x :: xs,y :: ys,h,hx,hy=>by
  have hx1:=hx x (List.mem_cons_self ..);have hy1:=hy y (List.mem_cons_self ..);have i1:=kV hC hD n xs (y :: ys) (by simp at h⊢;omega) (λz hz=>hx z (List.mem_cons_of_mem _ hz)) hy;have i2:=kV hC hD n (x :: xs) ys (by simp at h⊢;omega) hx (λz hz=>hy z (List.mem_cons_of_mem _ hz));have i3:=kV hC hD n xs ys (by simp at h⊢;omega) (λz hz=>hx z (List.mem_cons_of_mem _ hz)) (λz hz=>hy z (List.mem_cons_of_mem _ hz));rw[nG]
  split
  ·intro z hz;cases hz with
   |head=>omega
   |tail _ hz=>exact i1 z hz
  ·split
   ·intro z hz;cases hz with
    |head=>omega
    |tail _ hz=>exact i2 z hz
   ·intro z hz;cases hz with
    |head=>simp only;omega
    |tail _ hz=>exact i3 z hz
def iC:Nat->List Ent->List Ent
 | 0,l=>l
 |f+1,l=>if l.length<2 then l else bW (iC f (l.take (l.length / 2))) (iC f (l.drop (l.length / 2)))
def dQ (l:List Ent):List Ent:=iC l.length l
theorem uu (m:Nat)(l:List Ent)(h:¬l.length<2):iC (m+1) l=bW (iC m (l.take (l.length / 2))) (iC m (l.drop (l.length / 2))):=by rw[iC,if_neg h]
theorem qy: ∀n (l:List Ent),l.length<=n-> ∀f,l.length<=f->iC f l=iC l.length l
 | 0,l,h,f,_=>by
  rw[List.eq_nil_of_length_eq_zero (show l.length=0 by omega)];cases f with
  |zero=>rfl
  |succ f=>rw[iC];rfl
 |n+1,l,h,f,hf=>by
  by_cases hl:l.length<2
  ·match l,hl,f,hf with
   | [],_,0,_=>rfl
   | [],_,f+1,_=>rw[iC];rfl
   | [x],_,f+1,_=>rw[iC];rfl
   |x :: y :: t,h,_,_=>simp at h;omega
  ·obtain ⟨m,hm⟩: ∃m,l.length=m+1:=⟨l.length-1,by omega⟩;obtain ⟨k,rfl⟩: ∃k,f=k+1:=⟨f-1,by omega⟩;have h1:(l.take (l.length / 2)).length<=m:=by rw[List.length_take];omega
   have h2:(l.drop (l.length / 2)).length<=m:=by rw[List.length_drop];omega
   have e:iC l.length l=iC (m+1) l:=congrArg (λn=>iC n l) hm;rw[e,uu k l hl,uu m l hl];have i1:=qy n (l.take (l.length / 2)) (by omega);have i2:=qy n (l.drop (l.length / 2)) (by omega);rw[i1 k (by omega),i2 k (by omega),i1 m h1,i2 m h2]
theorem nK {l:List Ent}(h:l.length<2):dQ l=l:=by
 match l,h with
 | [],_=>rfl
 | [x],_=>rfl
 |x :: y :: t,h=>simp at h;omega
theorem qA {l:List Ent}(h:¬l.length<2):dQ l=bW (dQ (l.take (l.length / 2))) (dQ (l.drop (l.length / 2))):=by
 obtain ⟨m,hm⟩: ∃m,l.length=m+1:=⟨l.length-1,by omega⟩;have h1:(l.take (l.length / 2)).length<=m:=by rw[List.length_take];omega
 have h2:(l.drop (l.length / 2)).length<=m:=by rw[List.length_drop];omega
 have e:iC l.length l=iC (m+1) l:=congrArg (λn=>iC n l) hm;unfold dQ;rw[e,uu m l h,qy m _ h1 m h1,qy m _ h2 m h2]
theorem pz: ∀n (l:List Ent),l.length<=n->(dQ l).length<=l.length
 | 0,l,h=>by rw[List.eq_nil_of_length_eq_zero (show l.length=0 by omega)];simp[dQ,iC]
 |n+1,l,h=>by
  by_cases hl:l.length<2
  ·rw[nK hl];omega
  ·rw[qA hl];have h1:=pz n (l.take (l.length / 2)) (by rw[List.length_take];omega);have h2:=pz n (l.drop (l.length / 2)) (by rw[List.length_drop];omega);have h3:=kW _ (dQ (l.take (l.length / 2))) (dQ (l.drop (l.length / 2))) (Nat.le_refl _);rw[List.length_take]at h1;rw[List.length_drop]at h2;omega
theorem sI {C:Int}(hC:0<=C): ∀n (l:List Ent),l.length<=n->uD C l->uD (C*(l.length:Int)) (dQ l)
 | 0,l,h,_=>by
  rw[List.eq_nil_of_length_eq_zero (show l.length=0 by omega)];intro x hx;cases hx
 |n+1,l,h,hb=>by
  by_cases hl:l.length<2
  ·rw[nK hl];intro x hx;have h1:=hb x hx;have h2:l.length=1:=by have:=List.length_pos_of_mem hx;omega
   simp[h2];omega
  ·rw[qA hl];have h1:(l.take (l.length / 2)).length=l.length / 2:=by rw[List.length_take];omega
   have h2:(l.drop (l.length / 2)).length=l.length-l.length / 2:=by rw[List.length_drop]
   have b1:=sI hC n (l.take (l.length / 2)) (by omega) (λx hx=>hb x (List.mem_of_mem_take hx));have b2:=sI hC n (l.drop (l.length / 2)) (by omega) (λx hx=>hb x (List.mem_of_mem_drop hx));rw[h1]at b1;rw[h2]at b2;have:=kV (Int.mul_nonneg hC (by omega)) (Int.mul_nonneg hC (by omega)) _ _ _ (Nat.le_refl _) b1 b2;rw[<-Int.mul_add]at this;rw[show ((l.length / 2:Nat):Int)+((l.length-l.length / 2:Nat):Int)=(l.length:Int) from by omega]at this;exact this
def dJ (l:List Ent):List Ent:=l.filter λx=>!(x.count==0)
def dH:Nat->List Ent->Bool
 | _,[]=>false
 |m,x :: l=>if x.count=0 then dH m l else (decide (x.count < -65536) || decide (65536<x.count) || decide (m=4096)) || dH (m+1) l
structure Total {α:Type} (c:α->α->Int):Prop where
 zero: ∀a b,c a b=0↔a=b
 anti: ∀a b,c a b<0↔0<c b a
 trans: ∀a b d,c a b<0->c b d<0->c a d<0
theorem Total.self {α:Type}{c:α->α->Int}(h:Total c)(a:α):c a a=0:=(h.zero a a).2 rfl
theorem Total.lt_of {α:Type}{c:α->α->Int}(h:Total c){a b:α}(h1:¬c a b<0)(h2:¬c a b=0):c b a<0:=(h.anti b a).2 (by omega)
theorem Rx {a b:Int}:iP a b<0↔a<b:=by rw[iP];(repeat' split) <;> omega
theorem xY {a b:Int}:iP a b=0↔a=b:=by rw[iP];(repeat' split) <;> omega
theorem vX: ∀l:List UInt8,Op.bytesLess l l=false
 | []=>rfl
 |x :: l=>by simp[Op.bytesLess,vX l]
theorem Jg {x y:UInt8}{l m:List UInt8}:Op.bytesLess (x :: l) (y :: m)=true↔x.toNat<y.toNat\/(x=y/\Op.bytesLess l m=true):=by
 simp only[Op.bytesLess,Bool.or_eq_true,Bool.and_eq_true,decide_eq_true_eq,beq_iff_eq];exact Iff.rfl
theorem yH: ∀l m n:List UInt8,Op.bytesLess l m=true->Op.bytesLess m n=true->Op.bytesLess l n=true
 | _,_,[],_,h=>by simp[Op.bytesLess]at h
 | [],_,_ :: _,_,_=>rfl
 | _ :: _,[],_ :: _,h,_=>by simp[Op.bytesLess]at h
 |x :: l,y :: m,z :: n,h,h'=>by
  rw[Jg]at h h'⊢;rcases h with h|⟨rfl,h⟩
  ·rcases h' with h'|⟨rfl,h'⟩
   ·exact .inl (by omega)
   ·exact .inl h
  ·rcases h' with h'|⟨rfl,h'⟩
   ·exact .inl h'
   ·exact .inr ⟨rfl,yH l m n h h'⟩
theorem MM: ∀(l m:List UInt8),Op.bytesLess l m=false->Op.bytesLess m l=false->l=m
 | [],[]=>λ_ _=>rfl
 | [],_ :: _=>λh _=>by simp[Op.bytesLess]at h
 | _ :: _,[]=>λ_ h=>by simp[Op.bytesLess]at h
 |x :: l,y :: m=>λh h'=>by
  have h1:¬Op.bytesLess (x :: l) (y :: m)=true:=by rw[h];simp
  have h2:¬Op.bytesLess (y :: m) (x :: l)=true:=by rw[h'];simp
  rw[Jg]at h1 h2;have e:x=y:=UInt8.toNat_inj.1 (by omega);subst e;rw[MM l m (by cases q:Op.bytesLess l m;rfl;exact absurd (.inr ⟨rfl,q⟩) h1) (by cases q:Op.bytesLess m l;rfl;exact absurd (.inr ⟨rfl,q⟩) h2)]
theorem ba_eq {a b:ByteArray}(h:a.toList=b.toList):a=b:=by
 rw[ByteArray.toList_eq,ByteArray.toList_eq]at h;obtain ⟨⟨a⟩⟩:=a;obtain ⟨⟨b⟩⟩:=b;simp at h;rw[h]
theorem yK {a b:ByteArray}:iE a b<0↔Op.bytesLess a.toList b.toList=true:=by
 rw[iE]
 split
 ·simp_all
 ·split <;> simp_all
theorem r9 {a b:ByteArray}:iE a b=0↔a=b:=by
 rw[iE]
 split
 ·rename_i h;constructor
  ·intro q;omega
  ·intro q;rw[q,vX]at h;cases h
 ·split
  ·rename_i h;exact ⟨λ_=>ba_eq h,λ_=>rfl⟩
  ·rename_i h;exact ⟨λq=>absurd q (by omega),λq=>absurd (by rw[q]) h⟩
theorem sJ:Total iE:=by
 refine ⟨λ_ _=>r9,λa b=>?_,λa b d h h'=>?_⟩
 ·constructor
  ·intro h;have h1:¬iE b a<0:=λq=>by
    have:=yH _ _ _ (yK.1 h) (yK.1 q);rw[vX]at this;cases this
   have h2:¬iE b a=0:=λq=>by
    rw[r9]at q;subst q;rw[r9.2 rfl]at h;omega
   omega
  ·intro h;by_cases q:iE a b<0
   ·exact q
   ·have h1:Op.bytesLess a.toList b.toList=false:=by cases e:Op.bytesLess a.toList b.toList;rfl;exact absurd (yK.2 e) q
    have h2:Op.bytesLess b.toList a.toList=false:=by cases e:Op.bytesLess b.toList a.toList;rfl;have:=yK.2 e;omega
    have:=ba_eq (MM _ _ h1 h2);subst this;rw[r9.2 rfl]at h;omega
 ·exact yK.2 (yH _ _ _ (yK.1 h) (yK.1 h'))
theorem Jk {a b:Val}:bA a b<0↔a.kind<b.kind\/(a.kind=b.kind/\(a.num<b.num\/(a.num=b.num/\iE a.str b.str<0))):=by
 rw[bA];have h1:=@xY a.kind b.kind;have h2:=@xY a.num b.num;have h3:=@Rx a.kind b.kind;have h4:=@Rx a.num b.num
 split
 ·rename_i h;constructor <;> intro q <;> omega
 ·split
  ·constructor <;> intro q <;> omega
  ·constructor
   ·intro q;exact .inr ⟨by omega,.inr ⟨by omega,q⟩⟩
   ·intro q;omega
theorem qg {a b:Val}:bA a b=0↔a=b:=by
 obtain ⟨k,n,s⟩:=a;obtain ⟨k',n',s'⟩:=b;rw[bA];have h1:=@xY k k';have h2:=@xY n n';have h3:=@r9 s s';simp only
 split
 ·rename_i h;exact ⟨λq=>absurd q h,λq=>by injection q with q;exact absurd (h1.2 q) h⟩
 ·split
  ·rename_i h;exact ⟨λq=>absurd q h,λq=>by injection q with q q1;exact absurd (h2.2 q1) h⟩
  ·rename_i g h;constructor
   ·intro q;rw[h1.1 (by omega),h2.1 (by omega),h3.1 q]
   ·intro q;injection q with _ _ q;exact h3.2 q
theorem mh:Total bA:=by
 refine ⟨λ_ _=>qg,λa b=>?_,λa b d h h'=>?_⟩
 ·have g: ∀a b:Val,bA a b<0->0<bA b a:=λa b h=>by
   rw[Jk]at h;have h1:¬bA b a<0:=by
    rw[Jk];intro q;have:iE a.str b.str<0->iE b.str a.str<0->False:=λp p'=>by have:=(sJ.anti _ _).1 p;omega
    rcases h with h|⟨h,h|⟨h2,h⟩⟩ <;> rcases q with q|⟨q,q|⟨q2,q⟩⟩ <;> first|omega|exact this h q
   have h2:¬bA b a=0:=by
    rw[qg];rintro rfl;have:=(sJ.zero b.str b.str).2 rfl;rcases h with h|⟨_,h|⟨_,h⟩⟩ <;> omega
   omega
  constructor
  ·exact g a b
  ·intro h;by_cases q:bA a b<0
   ·exact q
   ·have h2:¬bA a b=0:=by
     rw[qg];rintro rfl;rw[qg.2 rfl]at h;omega
    exfalso;have h3:¬bA b a<0:=by omega
    rw[Jk]at q h3;rcases Int.lt_trichotomy a.kind b.kind with e|e|e
    ·exact q (.inl e)
    ·rcases Int.lt_trichotomy a.num b.num with e'|e'|e'
     ·exact q (.inr ⟨e,.inl e'⟩)
     ·by_cases c1:iE a.str b.str<0
      ·exact q (.inr ⟨e,.inr ⟨e',c1⟩⟩)
      ·by_cases c2:iE a.str b.str=0
       ·apply h2;rw[qg];obtain ⟨k,n,s⟩:=a;obtain ⟨k',n',s'⟩:=b;rw[r9]at c2;simp only at e e' c2;rw[e,e',c2]
       ·exact h3 (.inr ⟨e.symm,.inr ⟨e'.symm,sJ.lt_of c1 c2⟩⟩)
     ·exact h3 (.inr ⟨e.symm,.inl e'⟩)
    ·exact h3 (.inl e)
 ·rw[Jk]at h h'⊢;have:=sJ.trans a.str b.str d.str;rcases h with h|⟨h,h|⟨h2,h⟩⟩ <;> rcases h' with q|⟨q,q|⟨q2,q⟩⟩
  all_goals first|exact .inl (by omega)|exact .inr ⟨by omega,.inl (by omega)⟩|exact .inr ⟨by omega,.inr ⟨by omega,this h q⟩⟩
theorem dn: ∀{a b:List Val},aA a b=0↔a=b
 | [],[]=>by simp[aA]
 | [],_ :: _=>by simp[aA]
 | _ :: _,[]=>by simp[aA]
 |x :: l,y :: m=>by
  have ih:=@dn l m;have h:=@qg x y;rw[aA]
  split
  ·rename_i g;exact ⟨λq=>absurd q g,λq=>by injection q with q;exact absurd (h.2 q) g⟩
  ·rename_i g;rw[ih,h.1 (by omega)];simp
theorem Qd {x y:Val}{l m:List Val}:aA (x :: l) (y :: m)<0↔bA x y<0\/(x=y/\aA l m<0):=by
 have h:=@qg x y;rw[aA]
 split
 ·rename_i g;exact ⟨λq=>.inl q,λq=>by rcases q with q|⟨q,_⟩;exact q;exact absurd (h.2 q) g⟩
 ·rename_i g;exact ⟨λq=>.inr ⟨h.1 (by omega),q⟩,λq=>by rcases q with q|⟨_,q⟩;omega;exact q⟩
theorem Dp: ∀{a b:List Val},aA a b<0↔0<aA b a
 | [],[]=>by simp[aA]
 | [],_ :: _=>by simp[aA]
 | _ :: _,[]=>by simp[aA]
 |x :: l,y :: m=>by
  have ih:=@Dp l m;have h:=mh.anti x y;have h0:=mh.zero x y;have h1:=mh.zero y x;rw[aA,aA];by_cases e:x=y
  ·subst e;rw[if_neg (by rw[mh.self];simp),if_neg (by rw[mh.self];simp)];exact ih
  ·rw[if_pos (λq=>e (h0.1 q)),if_pos (λq=>e (h1.1 q).symm)];exact h
theorem mE: ∀{a b d:List Val},aA a b<0->aA b d<0->aA a d<0
 | _,[],[],_,h=>by simp[aA]at h
 | _,_ :: _,[],_,h=>by simp[aA]at h
 | [],_,_ :: _,_,_=>by simp[aA]
 | _ :: _,[],_ :: _,h,_=>by simp[aA]at h
 |x :: l,y :: m,z :: n,h,h'=>by
  rw[Qd]at h h'⊢;rcases h with h|⟨rfl,h⟩
  ·rcases h' with h'|⟨rfl,h'⟩
   ·exact .inl (mh.trans _ _ _ h h')
   ·exact .inl h
  ·rcases h' with h'|⟨rfl,h'⟩
   ·exact .inl h'
   ·exact .inr ⟨rfl,mE h h'⟩
theorem IE:Total aA:=⟨λ_ _=>dn,λ_ _=>Dp,λ_ _ _=>mE⟩
def cnt:List Ent->List Val->Int
 | [],_=>0
 |x :: l,r=>(if aA x.row r=0 then x.count else 0)+cnt l r
def jC (l:List Ent):Prop:=l.Pairwise λx y=>aA x.row y.row<0
def Ux (l:List Ent):Prop:= ∀x∈l,x.count≠0
theorem uN (l m:List Ent)(r:List Val):cnt (l++m) r=cnt l r+cnt m r:=by
 induction l with
 |nil=>simp[cnt]
 |cons x l ih=>rw[List.cons_append,cnt,cnt,ih];omega
theorem iy {l:List Ent}{r:List Val}(h: ∀x∈l,aA x.row r≠0):cnt l r=0:=by
 induction l with
 |nil=>rfl
 |cons x l ih=>rw[cnt,if_neg (h x (by simp)),ih λy hy=>h y (by simp[hy])];rfl
theorem jC.tail {x:Ent}{l:List Ent}(h:jC (x :: l)):jC l:=(List.pairwise_cons.1 h).2
theorem jC.head {x:Ent}{l:List Ent}(h:jC (x :: l)): ∀y∈l,aA x.row y.row<0:=(List.pairwise_cons.1 h).1
theorem jC.filter {l:List Ent}(h:jC l)(p:Ent->Bool):jC (l.filter p):=List.Pairwise.filter p h
theorem jC.head_zero {x:Ent}{l:List Ent}(h:jC (x :: l)):cnt l x.row=0:=
 iy λy hy q=>by
  have h1:=h.head y hy;have h2:=dn.1 q;rw[h2,dn.2 rfl]at h1;omega
theorem jC.mem {l:List Ent}(h:jC l){x:Ent}(hx:x∈l):cnt l x.row=x.count:=by
 induction l with
 |nil=>cases hx
 |cons y l ih=>
  rw[cnt];rcases List.mem_cons.1 hx with rfl|hx
  ·rw[if_pos (dn.2 rfl),h.head_zero];omega
  ·have h1:=h.head x hx;rw[if_neg (by omega),ih h.tail hx];omega
theorem Je: ∀{l m:List Ent},jC l->jC m->Ux l->Ux m->(∀r,cnt l r=cnt m r)->l=m
 | [],[],_,_,_,_,_=>rfl
 | [],y :: m,_,hm,_,hz,h=>by
  have:=h y.row;rw[hm.mem (by simp),cnt]at this;exact absurd this.symm (hz y (by simp))
 |x :: l,[],hl,_,hz,_,h=>by
  have:=h x.row;rw[hl.mem (by simp),cnt]at this;exact absurd this (hz x (by simp))
 |x :: l,y :: m,hl,hm,hz,hz',h=>by
  have hx:=hl.mem (x:=x) (by simp);have hy:=hm.mem (x:=y) (by simp);have n1:¬aA x.row y.row<0:=λq=>by
   have:cnt (y :: m) x.row=0:=iy λz hz0 e=>by
    have e:=dn.1 e;rcases List.mem_cons.1 hz0 with rfl|hz0
    ·rw[e,dn.2 rfl]at q;omega
    ·have:=mE q (hm.head z hz0);rw[e,dn.2 rfl]at this;omega
   rw[<-h,hx]at this;exact hz x (by simp) this
  have n2:¬aA y.row x.row<0:=λq=>by
   have:cnt (x :: l) y.row=0:=iy λz hz0 e=>by
    have e:=dn.1 e;rcases List.mem_cons.1 hz0 with rfl|hz0
    ·rw[e,dn.2 rfl]at q;omega
    ·have:=mE q (hl.head z hz0);rw[e,dn.2 rfl]at this;omega
   rw[h,hy]at this;exact hz' y (by simp) this
  have e:x.row=y.row:=by
   by_cases q:aA x.row y.row=0
   ·exact dn.1 q
   ·exact absurd (IE.lt_of n1 q) n2
  have e2:x.count=y.count:=by rw[<-hx,<-hy,h,e]
  have e3:x=y:=by
   obtain ⟨a,b⟩:=x;obtain ⟨c,d⟩:=y;simp only at e e2;rw[e,e2]
  subst e3;rw[Je hl.tail hm.tail (λz q=>hz z (by simp[q])) (λz q=>hz' z (by simp[q])) λr=>by
   have:=h r;rw[cnt,cnt]at this;omega]
theorem eP {P:List Val->Prop}: ∀f xs ys,(∀x∈xs,P x.row)->(∀x∈ys,P x.row)-> ∀x∈dE f xs ys,P x.row
 | 0,_,_=>λ_ _ x hx=>by simp[dE]at hx
 |f+1,[],[]=>λ_ _ x hx=>by simp[dE]at hx
 |f+1,[],y :: ys=>λh h' x hx=>by
  rw[dE]at hx;rcases List.mem_cons.1 hx with rfl|hx
  ·exact h' _ (by simp)
  ·exact eP f [] ys h (λz hz=>h' z (by simp[hz])) x hx
 |f+1,x :: xs,[]=>λh h' z hx=>by
  rw[dE]at hx;rcases List.mem_cons.1 hx with rfl|hx
  ·exact h _ (by simp)
  ·exact eP f xs [] (λz hz=>h z (by simp[hz])) h' z hx
 |f+1,x :: xs,y :: ys=>λh h' z hx=>by
  rw[dE]at hx
  split at hx
  ·rcases List.mem_cons.1 hx with rfl|hx
   ·exact h _ (by simp)
   ·exact eP f xs (y :: ys) (λz hz=>h z (by simp[hz])) h' z hx
  ·split at hx
   ·rcases List.mem_cons.1 hx with rfl|hx
    ·exact h' _ (by simp)
    ·exact eP f (x :: xs) ys h (λz hz=>h' z (by simp[hz])) z hx
   ·rcases List.mem_cons.1 hx with rfl|hx
    ·exact h x (by simp)
    ·exact eP f xs ys (λz hz=>h z (by simp[hz])) (λz hz=>h' z (by simp[hz])) z hx
theorem kU: ∀f xs ys,xs.length+ys.length<=f-> ∀r,cnt (dE f xs ys) r=cnt xs r+cnt ys r
 | 0,xs,ys=>λh r=>by
  have h1:xs=[]:=List.length_eq_zero_iff.1 (by omega);have h2:ys=[]:=List.length_eq_zero_iff.1 (by omega);subst h1 h2;rfl
 |f+1,[],[]=>λh r=>rfl
 |f+1,[],y :: ys=>λh r=>by
  simp only[dE,cnt,kU f [] ys (by simp at h⊢;omega) r];omega
 |f+1,x :: xs,[]=>λh r=>by
  simp only[dE,cnt,kU f xs [] (by simp at h⊢;omega) r];omega
 |f+1,x :: xs,y :: ys=>λh r=>by
  simp only[List.length_cons]at h;rw[dE]
  split
  ·rw[cnt,kU f xs (y :: ys) (by simp;omega),cnt,cnt];omega
  ·split
   ·rw[cnt,kU f (x :: xs) ys (by simp;omega),cnt,cnt];omega
   ·have e:x.row=y.row:=dn.1 (by omega);rw[cnt,kU f xs ys (by omega),cnt,cnt,e];simp only
    split <;> omega
theorem kT: ∀f xs ys,jC xs->jC ys->jC (dE f xs ys)
 | 0,_,_=>λ_ _=>List.Pairwise.nil
 |f+1,[],[]=>λ_ _=>List.Pairwise.nil
 |f+1,[],y :: ys=>λh h'=>by
  rw[dE];exact List.pairwise_cons.2 ⟨eP (P:=λr=>aA y.row r<0) f [] ys (λz hz=>by cases hz) h'.head,kT f [] ys h h'.tail⟩
 |f+1,x :: xs,[]=>λh h'=>by
  rw[dE];exact List.pairwise_cons.2 ⟨eP (P:=λr=>aA x.row r<0) f xs [] h.head (λz hz=>by cases hz),kT f xs [] h.tail h'⟩
 |f+1,x :: xs,y :: ys=>λh h'=>by
  rw[dE]
  split
  ·rename_i q;exact List.pairwise_cons.2 ⟨eP (P:=λr=>aA x.row r<0) f xs (y :: ys) h.head (λz hz=>by
    rcases List.mem_cons.1 hz with rfl|hz
    ·exact q
    ·exact mE q (h'.head z hz)),kT f xs (y :: ys) h.tail h'⟩
  ·split
   ·rename_i _ q;have q:=Dp.2 q;exact List.pairwise_cons.2 ⟨eP (P:=λr=>aA y.row r<0) f (x :: xs) ys (λz hz=>by
     rcases List.mem_cons.1 hz with rfl|hz
     ·exact q
     ·exact mE q (h.head z hz)) h'.head,kT f (x :: xs) ys h h'.tail⟩
   ·have e:x.row=y.row:=dn.1 (by omega);exact List.pairwise_cons.2 ⟨eP (P:=λr=>aA x.row r<0) f xs ys h.head (λz hz=>by rw[e];exact h'.head z hz),kT f xs ys h.tail h'.tail⟩
theorem Ic (xs ys:List Ent)(r:List Val):cnt (bW xs ys) r=cnt xs r+cnt ys r:=kU _ _ _ (Nat.le_refl _) r
theorem Ib {xs ys:List Ent}(h:jC xs)(h':jC ys):jC (bW xs ys):=kT _ _ _ h h'
theorem wM: ∀f (l:List Ent) (r:List Val),cnt (iC f l) r=cnt l r
 | 0,l,r=>rfl
 |f+1,l,r=>by
  rw[iC]
  split
  ·rfl
  ·rw[Ic,wM f,wM f,<-uN,List.take_append_drop]
theorem wL: ∀f (l:List Ent),l.length<=f->jC (iC f l)
 | 0,l,h=>by
  have h1:l=[]:=List.length_eq_zero_iff.1 (by omega);subst h1;exact List.Pairwise.nil
 |f+1,l,h=>by
  rw[iC]
  split
  ·rename_i q
   match l,q with
   | [],_=>exact List.Pairwise.nil
   | [x],_=>exact List.pairwise_singleton _ _
   | _ :: _ :: _,q=>exact absurd q (by simp)
  ·exact Ib (wL f _ (by rw[List.length_take];omega)) (wL f _ (by rw[List.length_drop];omega))
theorem pu (l:List Ent)(r:List Val):cnt (dQ l) r=cnt l r:=wM _ _ _
theorem sH (l:List Ent):jC (dQ l):=wL _ _ (Nat.le_refl _)
theorem oV (l:List Ent)(r:List Val):cnt (dJ l) r=cnt l r:=by
 induction l with
 |nil=>rfl
 |cons x l ih=>
  rw[dJ]at ih⊢;by_cases q:x.count=0
  ·rw[List.filter_cons_of_neg (by simp[q]),ih,cnt,q];simp
  ·rw[List.filter_cons_of_pos (by simp[q]),cnt,ih,cnt]
theorem sD {l:List Ent}(h:jC l):jC (dJ l):=h.filter _
theorem mf (l:List Ent):Ux (dJ l):=λx hx=>by
 have:=(List.mem_filter.1 hx).2;simpa using this
theorem Ky {l:List Ent}: ∀x∈dJ l,x∈l:=λx hx=>(List.mem_filter.1 hx).1
theorem rO: ∀(l:List Ent) (m:Nat),dH m (dJ l)=dH m l
 | [],m=>rfl
 |x :: l,m=>by
  have ih:=rO l;by_cases q:x.count=0
  ·rw[show dJ (x :: l)=dJ l from List.filter_cons_of_neg (by simp[q]),ih,dH,if_pos q]
  ·rw[show dJ (x :: l)=x :: dJ l from List.filter_cons_of_pos (by simp[q]),dH,dH,if_neg q,if_neg q,ih]
def pU (xs:List Ent):Int×List Ent:=if dH 0 (dQ xs)=true then (2,[]) else (0,dJ (dQ xs))
theorem uo: ∀(l:List Ent) (m:Nat),Ux l->m<=4096->(dH m l=false↔(∀x∈l, -65536<=x.count/\x.count<=65536)/\m+l.length<=4096)
 | [],m,_,hm=>by simp[dH];omega
 |x :: l,m,h,hm=>by
  have hx:x.count≠0:=h x (by simp);rw[dH,if_neg hx];by_cases q:m=4096
  ·subst q;simp
  ·have ih:=uo l (m+1) (λy hy=>h y (by simp[hy])) (by omega);simp only[Bool.or_eq_false_iff,decide_eq_false_iff_not,ih,List.mem_cons,List.length_cons,forall_eq_or_imp];constructor
   ·rintro ⟨⟨⟨a,b⟩,_⟩,c,d⟩;exact ⟨⟨⟨by omega,by omega⟩,c⟩,by omega⟩
   ·rintro ⟨⟨⟨a,b⟩,c⟩,d⟩;exact ⟨⟨⟨by omega,by omega⟩,q⟩,c,by omega⟩
theorem uQ {α:Type}{f:Nat->α->Int}: ∀{l:List α} {k:Nat},ai f k l=0↔ ∀j x,l[j]?=some x->f (k+j) x=0
 | [],k=>by simp[ai]
 |y :: l,k=>by
  have ih:=@uQ α f l (k+1);rw[ai];by_cases hy:f k y=0
  ·rw[if_neg (by simpa using hy),ih];constructor
   ·intro h j x hx;cases j with
    |zero=>simp at hx;subst hx;exact hy
    |succ j=>have:=h j x (by simpa using hx);rw[show k+(j+1)=k+1+j by omega];exact this
   ·intro h j x hx;have:=h (j+1) x (by simpa using hx);rw[show k+(j+1)=k+1+j by omega]at this;exact this
  ·rw[if_pos hy];constructor
   ·intro h;exact absurd h hy
   ·intro h;exact absurd (h 0 y (by simp)) hy
theorem pR {b:List Ent}{i:Nat}{x:Ent}:dF b i x=0↔aV x=0/\x.count≠0/\(0<i->aA (b.getD (i-1) default).row x.row<0):=by
 rw[dF];by_cases h1:aV x=0
 ·rw[if_neg (by simpa using h1)];by_cases h2:x.count=0
  ·simp[h1,h2]
  ·rw[if_neg h2];by_cases h3:0<i/\0<=aA (b.getD (i-1) default).row x.row
   ·rw[if_pos h3];constructor
    ·intro q;omega
    ·rintro ⟨_,_,q⟩;have:=q h3.1;omega
   ·rw[if_neg h3];simp only[true_iff];exact ⟨h1,h2,λq=>by
     by_cases g:aA (b.getD (i-1) default).row x.row<0
     ·exact g
     ·exact absurd ⟨q,by omega⟩ h3⟩
 ·rw[if_pos h1];simp[h1]
theorem uG: ∀{l:List Ent},(∀j x y,l[j]?=some x->l[j+1]?=some y->aA x.row y.row<0)->jC l
 | [],_=>List.Pairwise.nil
 | [x],_=>List.pairwise_singleton _ _
 |x :: y :: l,h=>by
  have h1:=h 0 x y rfl rfl;have ih:jC (y :: l):=uG λj a b ha hb=>h (j+1) a b (by simpa using ha) (by simpa using hb);refine List.pairwise_cons.2 ⟨λz hz=>?_,ih⟩;rcases List.mem_cons.1 hz with rfl|hz
  ·exact h1
  ·exact mE h1 (ih.head z hz)
theorem iN {b:List Ent}:aL b=0↔b.length<=4096/\(∀x∈b,aV x=0/\x.count≠0)/\jC b:=by
 rw[aL];by_cases hl:4096<b.length
 ·rw[if_pos hl];constructor
  ·intro q;omega
  ·rintro ⟨q,_⟩;omega
 ·rw[if_neg hl,uQ];have hl':b.length<=4096:=by omega
  constructor
  ·intro h;refine ⟨hl',λx hx=>?_,uG λj x y hx hy=>?_⟩
   ·obtain ⟨j,hj⟩:=List.mem_iff_getElem?.1 hx;have:=pR.1 (h j x hj);exact ⟨this.1,this.2.1⟩
   ·have:=(pR.1 (h (j+1) y hy)).2.2 (by omega);rw[show (0+(j+1)-1)=j by omega,List.getD_eq_getElem?_getD,hx]at this;exact this
  ·rintro ⟨_,h1,h2⟩ j x hx;have hm:=List.mem_iff_getElem?.2 ⟨j,hx⟩;refine pR.2 ⟨(h1 x hm).1,(h1 x hm).2,λhj=>?_⟩;obtain ⟨hlt,he⟩:=List.getElem?_eq_some_iff.1 hx;have:=List.pairwise_iff_getElem.1 h2 (0+j-1) j (by omega) hlt (by omega);rw[he]at this;rw[List.getD_eq_getElem?_getD,List.getElem?_eq_getElem (by omega)];exact this
theorem Qm {x:Ent}(h:aV x=0): -65536<=x.count/\x.count<=65536/\x.row.length<=12:=by
 rw[aV]at h
 split at h
 ·omega
 ·omega
theorem rR {P:List Val->Prop}: ∀f (l:List Ent),(∀x∈l,P x.row)-> ∀x∈iC f l,P x.row
 | 0,l,h=>h
 |f+1,l,h=>by
  rw[iC]
  split
  ·exact h
  ·exact eP _ _ _ (rR f _ λx hx=>h x (List.mem_of_mem_take hx)) (rR f _ λx hx=>h x (List.mem_of_mem_drop hx))
theorem vW {P:List Val->Prop}{xs:List Ent}(h: ∀x∈xs,P x.row): ∀x∈(pU xs).2,P x.row:=by
 rw[pU]
 split
 ·intro x hx;cases hx
 ·intro x hx;exact rR _ xs h x (Ky x hx)
theorem EM (xs:List Ent):(pU xs).1=0\/((pU xs).1=2/\(pU xs).2=[]):=by
 rw[pU];split <;> simp
theorem EL {xs:List Ent}(h:(pU xs).1=0)(r:List Val):cnt (pU xs).2 r=cnt xs r:=by
 rw[pU]at h⊢
 split
 ·rename_i q;rw[if_pos q]at h;cases h
 ·rw[oV,pu]
theorem qh {x:Ent}:aV x=0↔(-65536<=x.count/\x.count<=65536)/\x.row.length<=12/\ ∀v∈x.row,valid v=true:=by
 rw[aV]
 split
 ·rename_i h;constructor
  ·intro q;omega
  ·rintro ⟨q,q1,_⟩;omega
 ·rename_i h;rw[uQ];constructor
  ·intro q;refine ⟨by omega,by omega,λv hv=>?_⟩;obtain ⟨j,hj⟩:=List.mem_iff_getElem?.1 hv;have:=q j v hj
   split at this
   ·assumption
   ·omega
  ·rintro ⟨_,_,q⟩ j v hj;rw[if_pos (q v (List.mem_iff_getElem?.2 ⟨j,hj⟩))]
theorem Dh {xs:List Ent}(h: ∀x∈xs,aV x=0):aL (pU xs).2=0:=by
 have hr:=vW (P:=λr=>r.length<=12/\ ∀v∈r,valid v=true) (xs:=xs) λx hx=>(qh.1 (h x hx)).2;rw[pU]at hr⊢
 split
 ·rfl
 ·rename_i q;rw[if_neg q]at hr;have q:dH 0 (dJ (dQ xs))=false:=by rw[rO];simpa using q
  obtain ⟨h1,h2⟩:=(uo _ 0 (mf _) (by omega)).1 q;exact iN.2 ⟨by simpa using h2,λx hx=>⟨qh.2 ⟨h1 x hx,hr x hx⟩,mf _ x hx⟩,sD (sH _)⟩
def cntF:List Ent->List Val->Int
 | [],_=>0
 |x :: l,r=>if aA x.row r=0 then x.count else cntF l r
theorem jC.cntF {l:List Ent}(h:jC l)(r:List Val):Proofs.YtopjjlmfilgngaaGreatDoor.cntF l r=cnt l r:=by
 induction l with
 |nil=>rfl
 |cons x l ih=>
  rw[Proofs.YtopjjlmfilgngaaGreatDoor.cntF,cnt];by_cases q:aA x.row r=0
  ·rw[if_pos q,if_pos q];have:=h.head_zero;rw[dn.1 q]at this;omega
  ·rw[if_neg q,if_neg q,ih h.tail];omega
end Go.Proofs.YtopjjlmfilgngaaGreatDoor
