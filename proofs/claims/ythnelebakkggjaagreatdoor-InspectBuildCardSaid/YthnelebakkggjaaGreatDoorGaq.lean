/-
  expr.Validate: it returns exprErr. Slices of nodes of the call's own: their cells, appends onto them, slices cut off at a length. No program is in sight but for the shape of a node. schema.Indices, schema.Pick; warehouseref5.Indices, Pick. api.Check as data; the errors of check.Validate; check.usesOther, usesCond, exact.formed, exact.Reduce, check.share. exact.formed, exact.Reduce, check.share. A check and two relations, boxed: what every function of these begins with. (Printed by gen_all.py.) warehouseref8.Raise and Validate.
-/
import Derived.Test.YthnelebakkggjaaGreatDoorGap
namespace Go.Proofs.YthnelebakkggjaaGreatDoor
set_option maxHeartbeats 4000000
set_option maxRecDepth 100000
open Go.RowKit
set_option linter.unusedSimpArgs false
set_option linter.unusedVariables false
theorem In.node {w:World}{A:Option Addr}{n c k:Nat}{xs:List Node}(h:In w A n c xs)(d:k<n): ∃b off x,A=some ⟨b,off,none⟩/\b<w.heap.size/\Hl (xs.drop k=x::xs.drop (k+1))/\
  w.cell? ⟨b,off+k*6,none⟩=some (.int .i64 x.op)/\w.cell? ⟨b,off+k*6+1,none⟩=some (.int .i64 x.value.kind)/\w.cell? ⟨b,off+k*6+2,none⟩=some (.int .i64 x.value.num)/\w.cell? ⟨b,off+k*6+3,none⟩=some (.string x.value.str)/\
  w.cell? ⟨b,off+k*6+4,none⟩=some (.string x.name)/\w.cell? ⟨b,off+k*6+5,none⟩=some (.int .i64 x.arity)/\x.ok:=by
 obtain⟨b,off,x,e,hb,g,i,⟨rfl,f⟩,a⟩:=h.get d;exact⟨b,off,x,e,hb,g,a 0 (by simp[Node.cells]),a 1 (by simp[Node.cells]),a 2 (by simp[Node.cells]),a 3 (by simp[Node.cells]),a 4 (by simp[Node.cells]),a 5 (by simp[Node.cells]),f⟩
def gM (w:World)(b:Nat)(x:Node):Prop:=w.cell? ⟨b,0,none⟩=some (.int .i64 x.op)/\w.cell? ⟨b,1,none⟩=some (.int .i64 x.value.kind)/\w.cell? ⟨b,2,none⟩=some (.int .i64 x.value.num)/\w.cell? ⟨b,3,none⟩=some (.string x.value.str)/\
  w.cell? ⟨b,4,none⟩=some (.string x.name)/\w.cell? ⟨b,5,none⟩=some (.int .i64 x.arity)
theorem gM.b {w w':World}{b:Nat}{x:Node}(h:gM w b x)(hb:Below w.heap.size w w')(a:b<w.heap.size):gM w' b x:=
 ⟨eG hb a h.1,eG hb a h.2.1,eG hb a h.2.2.1,eG hb a h.2.2.2.1,eG hb a h.2.2.2.2.1,eG hb a h.2.2.2.2.2⟩
theorem gM.made (w:World)(x:Node):gM (w.alloc (.cells #[.int .i64 x.op,.int .i64 x.value.kind,.int .i64 x.value.num,.string x.value.str,.string x.name,.int .i64 x.arity] 69)) w.heap.size x:=by
 refine⟨?_,?_,?_,?_,?_,?_⟩<;>simp[go_sem]
theorem mU {n:Node}(h:shaped n=true):0<=arity n.op n.arity/\arity n.op n.arity<=8:=by
 obtain⟨a,v,nm,g⟩:=n;simp only[shaped]at h;unfold arity;by_cases b:a=0
 ·simp[b]
 rw[if_neg b]at h;by_cases c:a=21
 ·subst c;simp at h;simp;omega
 rw[if_neg c]at h;by_cases d:a=1
 ·simp[d]
 rw[if_neg d]at h;by_cases e:a=20
 ·simp[e]
 rw[if_neg e]at h;simp only[Bool.and_eq_true,decide_eq_true_eq]at h;have f:=h.2.2.2;refine⟨f,?_⟩
 (repeat' split)<;>omega
theorem Fq {l:List Int}{j:Nat}{x:Int}{r:List Int}(h:l.drop j=x::r):raise (l.take (j+1))=max (raise (l.take j)) (1+x):=by
 have a:=iI h;rw[List.take_add_one,a.1];simp[raise,List.foldl_append]
theorem zt {l:List Int}(h: ∀x∈l,1<=x/\x<=64):1<=raise l/\raise l<=65:=by
 have key: ∀(l:List Int) (a:Int),(∀x∈l,1<=x/\x<=64)->1<=a/\a<=65->1<=l.foldl (λh x=>max h (1+x)) a/\l.foldl (λh x=>max h (1+x)) a<=65:=by
  intro l
  induction l with
  |nil=>intro a _ h;exact h
  |cons x l e=>
   intro a b f;have g:=b x II;have c:1<=max a (1+x)/\max a (1+x)<=65:=by omega
   exact e _ (λy d=>b y (by simp[d])) c
 exact key l 1 h Ho
theorem Db:(Tryz.prog.info? 3).map (λi=>(i.zero,i.size,i.bytes))=some (some (.int .i64 0),1,8):=by kernel_rfl
structure Hts (w wr:World) (st:List Int) (d:Nat) (A:Option Addr) (c:Nat):Prop where
 stk:Stk w.heap.size wr 3 A c st
 len:st.length=d
 bd: ∀h∈st,1<=h/\h<=64
 b:Below w.heap.size w wr
theorem Hts.keep {w wr w':World}{st:List Int}{d:Nat}{A:Option Addr}{c:Nat}(h:Hts w wr st d A c)(hb:Below wr.heap.size wr w'):Hts w w' st d A c:=
 ⟨h.stk.keep hb,h.len,h.bd,eu h.b hb⟩
theorem rW {α:Type}[Flat α]{i:Nat}{f:World}{e:TypeId}{st:List α}{r m:Nat}{B:Option Addr}{a:Nat}(h:Stk i f e B a st)(c:st.length=r+m):
  (r=a/\m=0)\/(¬a=r/\ ∃g,B=some ⟨g,0,none⟩/\In f (some ⟨g,r*Rep.size α,none⟩) m (a-r) (st.drop r)):=by
 have j:=h.cap;rw[c]at j;by_cases b:a=r
 ·exact .inl ⟨b.symm,Ho⟩
 ·refine .inr ⟨b,?_⟩;rcases h.addr with rfl|⟨g,rfl⟩
  ·have:=h.none_ rfl;omega
  ·have d:=h.from_ (k:=r) (by rw[c];omega);rw[c,if_neg b,show r+m-r=m by omega,Option.map_some,jv,Nat.zero_add]at d;exact⟨g,rfl,d⟩
theorem Hts.push {w d c:World}{st:List Int}{r m:Nat}{B:Option Addr}{e:Nat}(h:Hts w d st (r+m) B e){o:Obj}{A':Option Addr}{c':Nat}{y:Int}(f:Stk w.heap.size c 3 A' c' (st.take r++[y]))(hb:Below w.heap.size (d.alloc o) c)(g:1<=y/\y<=64):
  Hts w c (st.take r++[y]) (r+1) A' c':=by
 refine⟨f,?_,?_,(eu h.b eB).trans hb⟩
 ·rw[List.length_append,List.length_take,h.len];simp
 ·intro q a;rcases List.mem_append.1 a with a|a
  ·exact h.bd q (List.mem_of_mem_take a)
  ·simp at a;subst a;exact g
theorem rz {x:Node}{r m:Nat}(a:arity x.op x.arity=(m:Int)):oh x (r+m)=r:=by
 rw[oh,a,Int.toNat_natCast];omega
theorem uK {x:Node}{l:List Node}{st:List Int}{r m:Nat}(d:shaped x=true)(b:arity x.op x.arity=(m:Int))(a:st.length=r+m)(c:64<raise (st.drop r)):fZ st (x::l)=2:=by
 rw[fZ,if_neg (by rw[d,b,a];simp;omega),a,rz b,if_pos c]
theorem qN {x:Node}{l:List Node}{st:List Int}{r m:Nat}(c:shaped x=true)(b:arity x.op x.arity=(m:Int))(a:st.length=r+m)(d:raise (st.drop r)<=64):fZ st (x::l)=fZ (st.take r++[raise (st.drop r)]) l:=by
 rw[fZ,if_neg (by rw[c,b,a];simp;omega),a,rz b,if_neg Ho]
theorem wR {y:Int}(h:1<=y/\y<=65):jP y:=by unfold jP;omega
theorem BZ {α:Type}{l:List α}{r j:Nat}{x:α}{q:List α}(h:(l.drop r).drop j=x::q):x∈l:=by
 have a:x∈(l.drop r).drop j:=by rw[h];simp
 exact List.mem_of_mem_drop (List.mem_of_mem_drop a)
theorem CO (w:World)(A:Option Addr)(n c:Nat)(es:List Node)(H:In w A n c es)(hw:Words w):
  Calls Tryz.prog 164 #[.slice A n c] w λe w'=>e=.returned (.int .i64 (gY es))/\Below w.heap.size w w':=by
 have aq:=H.le;have ab:=Hm H.len;obtain⟨i0,hi,ae,af,ag⟩:=info_parts Db;by_cases V:256<n
 ·have f:Hl (2=gY es):=Hm (by simp only[gY];rw[ab.o,if_pos V]);go_enter Tryz.func164,Tryz.ntmps164;go_wp2;all_goals(go_ret;exact⟨eQ f.o,IJ⟩)
 have u:Hl (gY es=fZ [] es):=Hm (by simp only[gY];rw[ab.o,if_neg V]);go_enter Tryz.func164,Tryz.ntmps164;go_wp2;go_loopw [3,15] (λv i wr=> ∃(k d:Nat) (st:List Int) (B:Option Addr) (G:Nat),k<=n/\d<=k/\i=.int .i64 k/\v=.slice B d G/\fZ [] es=fZ st (es.drop k)/\Hts w wr st d B G) (λ_ i _=>n-(intOf i).toNat)
 case atStart=>exact⟨0,0,[],none,0,Nat.zero_le _,Nat.zero_le _,rfl,rfl,rfl,⟨Stk.nil_ _ _ _,rfl,(λ_ h=>by cases h),IJ⟩⟩
 case round=>
  obtain⟨k,d,st,B,G,hk,au,rfl,rfl,Z,ad⟩:=hrel;have s:=Hm Z;have l:=Hm ad;clear Z ad;by_cases al:k<n
  ·obtain⟨b,off,x,rfl,hB,p,f0,f1,f2,f3,f4,f5,am⟩:=(H.b l.o.b).node al;have O:=Hm (gM.made wr x);go_wp2_with fail;refine(Fz x am _ (hw.b (eu l.o.b eB))).mono ?_;rintro e w1 ⟨rfl,z⟩;obtain⟨g0,g1,g2,g3,g4,g5⟩:=O.o.b z II;have P:=Hm (O.o.b z II);have T:=Hm ((l.o.keep eB).keep z);have z1:wr.heap.size<w1.heap.size:=by have:=z.size;simp at this;omega
   clear z f0 f1 f2 f3 f4 f5;cases E:shaped x
   ·have f:Hl (8=gY es):=Hm (by rw[u.o,s.o,p.o,fZ,if_pos (.inl E)]);go_wp2;go_ret;exact⟨eQ f.o,T.o.b⟩
   obtain⟨m,hm⟩: ∃m:Nat,arity x.op x.arity=(m:Int):=⟨(arity x.op x.arity).toNat,by have:=mU E;omega⟩;have av:m<=8:=by have:=(mU E).2;omega
   have t:=Hm hm;have M:=Hm E;clear E hm;go_wp2_with fail;refine(qU x _).mono ?_;rintro e w2 ⟨rfl,C⟩;rw[t.o];obtain⟨q0,q1,q2,q3,q4,q5⟩:=P.o.b C z1;have ai:=Hm (P.o.b C z1);have U:=Hm (T.o.keep C);have z2:wr.heap.size<w2.heap.size:=by have:=C.size;omega
   clear C g0 g1 g2 g3 g4 g5;by_cases aw:d<m
   ·have f:Hl (8=gY es):=Hm (by rw[u.o,s.o,p.o,fZ,if_pos (.inr (by rw[t.o,l.o.len];omega))]);go_wp2;go_ret;exact⟨eQ f.o,U.o.b⟩
   obtain⟨r,rfl⟩: ∃r,d=r+m:=⟨d-m,Ho⟩;go_wp2_with fail;refine(qU x _).mono ?_;rintro e I ⟨rfl,W⟩;rw[t.o];have a:=Hm (U.o.keep W);clear W q0 q1 q2 q3 q4 q5 O P ai;have aj:=a.o.stk.cap;rw[a.o.len]at aj;have X: ∀(j:Nat) (y:Int) (q:List Int),(st.drop r).drop j=y::q->1<=y/\y<=64:=λ_ _ _ h=>l.o.bd _ (BZ h);have ac: ∀j,1<=raise ((st.drop r).take j)/\raise ((st.drop r).take j)<=65:=λj=>zt λq hq=>l.o.bd q (List.mem_of_mem_drop (List.mem_of_mem_take hq));have Q:=Hm X;have S:=Hm ac;clear X ac;rcases rW a.o.stk a.o.len with ⟨rfl,rfl⟩|⟨hc,g,rfl,aa⟩
   ·go_wp2
    go_loop [7,38] (λh i=>i=.int .i64 0/\h=.int .i64 1) (λ_ i=>0)
    case atStart=>exact⟨rfl,rfl⟩
    case round=>
     obtain⟨rfl,rfl⟩:=hrel;have R:Hl (raise (st.drop r)=1):=Hm (by rw[List.drop_eq_nil_of_le (by rw[a.o.len];omega)];rfl);have K:Hl (fZ [] es=fZ (st.take r++[1]) (es.drop (k+1))):=Hm (by rw[s.o,p.o,qN M.o t.o a.o.len (by rw[R.o];omega),R.o]);have J:Hl (r<=st.length):=Hm (by rw[a.o.len];omega);have ap:w.heap.size<=I.heap.size:=a.o.b.size;go_wp2_with (at_builtin;refine qI (α:=Int) _ rfl (.tmp 51) (.tmp 53) 33 rfl w.heap.size 3 i0 _ 8 Tryz.underlying33 hi ae af ag rfl (by decide) B r r st (a.o.stk.keep eB) J.o rfl 1 (wR Ho) I.heap.size rfl (gU _ _ _ _ rfl) Ho (by simp;omega) ?_;intro A' c' w4 F D);have L:=Hm (a.o.push F D Ho);clear F D;go_wp2;go_roundw
     case rel=>exact⟨k+1,r+1,_,A',c',Ho,Ho,by go_num,rfl,K.o,L.o⟩
     case measure=>simp[intOf];omega
   ·rw[show r*Rep.size Int=r from Nat.mul_one r]at aa;go_wp2
    go_loop [7,38] (λh i=> ∃j:Nat,j<=m/\i=.int .i64 j/\h=.int .i64 (raise ((st.drop r).take j))) (λ_ i=>m-(intOf i).toNat)
    case atStart=>exact⟨0,Nat.zero_le _,rfl,rfl⟩
    case round=>
     obtain⟨j,hj,rfl,rfl⟩:=hrel;have an:=(S.o j).1;have ao:=(S.o j).2;by_cases ak:j<m
     ·obtain⟨b',az,y,e,ar,N,y0,y1⟩:=aa.int ak;injection e with e;injection e with e_1 e_2;subst e_1 e_2;have ax:=(Q.o _ _ _ N.o).1;have ay:=(Q.o _ _ _ N.o).2;have HR:=Hm (Fq N.o);go_wp2
      go_round
      case rel=>exact⟨j+1,Ho,by go_num,by rw[HR.o]⟩
      case measure=>simp[intOf];omega
     ·obtain rfl:j=m:=by omega
      have ah:Hl ((st.drop r).take j=st.drop r):=Hm (List.take_of_length_le (by rw[List.length_drop,a.o.len];omega));rw[ah.o]at an ao⊢;by_cases hh:64<raise (st.drop r)
      ·have f:Hl (2=gY es):=Hm (by rw[u.o,s.o,p.o,uK M.o t.o a.o.len hh]);go_wp2;go_ret;exact⟨eQ f.o,a.o.b⟩
      have K:Hl (fZ [] es=fZ (st.take r++[raise (st.drop r)]) (es.drop (k+1))):=Hm (by rw[s.o,p.o,qN M.o t.o a.o.len Ho]);have J:Hl (r<=st.length):=Hm (by rw[a.o.len];omega);have ap:w.heap.size<=I.heap.size:=a.o.b.size;go_wp2_with (at_builtin;refine qI (α:=Int) _ rfl (.tmp 51) (.tmp 53) 33 rfl w.heap.size 3 i0 _ 8 Tryz.underlying33 hi ae af ag rfl (by decide) (some ⟨g,0,none⟩) G r st (a.o.stk.keep eB) J.o rfl (raise (st.drop r)) (wR Ho) I.heap.size rfl (gU _ _ _ _ rfl) Ho (by simp;omega) ?_;intro A' c' w4 F D);have L:=Hm (a.o.push F D Ho);clear F D;go_wp2;go_roundw
      case rel=>exact⟨k+1,r+1,_,A',c',Ho,Ho,by go_num,rfl,K.o,L.o⟩
      case measure=>simp[intOf];omega
  ·have p:=Hm (fG H.len (show n<=k by omega));by_cases Y:d=1
   ·have f:Hl (0=gY es):=Hm (by rw[u.o,s.o,p.o,fZ,if_neg (by rw[l.o.len];omega)]);subst Y;go_wp2;go_ret;exact⟨eQ f.o,l.o.b⟩
   ·have f:Hl (8=gY es):=Hm (by rw[u.o,s.o,p.o,fZ,if_pos (by rw[l.o.len];omega)]);have q1:((d:Int) != 1)=true:=by simp;omega
    clear Y;go_wp2;go_ret;exact⟨eQ f.o,l.o.b⟩
instance:Flat Node where
 cs v:=v.cells
 ok v:=v.ok
 rd_mk _ _ _ h:=⟨rfl,h⟩
 cs_len _:=rfl
 cs_one v u hu:=by simp[Node.cells]at hu;rcases hu with rfl|rfl|rfl|rfl|rfl|rfl<;>rfl
 pos:=by decide
instance:Flat Col where
 cs v:=v.cells
 ok v:=v.ok
 rd_mk _ _ _ h:=⟨rfl,h⟩
 cs_len _:=rfl
 cs_one v u hu:=by simp[Col.cells]at hu;rcases hu with rfl|rfl|rfl<;>rfl
 pos:=by decide
instance:Flat ByteArray where
 cs v:=[.string v]
 ok v:=Str v
 rd_mk _ _ _ h:=⟨rfl,h⟩
 cs_len _:=rfl
 cs_one v u hu:=by simp at hu;subst hu;rfl
 pos:=by decide
class Plain (α:Type) extends Flat α where
 inv: ∀{w:World} {S:Nat->Prop} {cs:List Value} {a:α},Rep.rd w S cs a->cs=Flat.cs a/\Flat.ok a
instance:Plain Node:=⟨λh=>h⟩
instance:Plain Col:=⟨λh=>h⟩
instance:Plain Val:=⟨λh=>h⟩
instance:Plain ByteArray:=⟨λh=>h⟩
theorem Sl.take {β:Type}[Rep β]{w:World}{S:Nat->Prop}{A:Option Addr}{n c k:Nat}{xs:List β}(h:Sl w S A n c xs)(f:k<=n):Sl w S A k c (xs.take k):=by
 refine⟨by rw[List.length_take,h.1];omega,by have:=h.2.1;omega,h.2.2.1,h.2.2.2.1,λg=>?_⟩;obtain⟨b,off,e,hb,hi⟩:=h.2.2.2.2 Ho;refine⟨b,off,e,hb,λi a=>?_⟩;have d:i<xs.length:=by rw[List.length_take]at a;omega
 have:=hi i d;rw[List.getElem_take];exact this
theorem In.take {β:Type}[Rep β]{w:World}{A:Option Addr}{n c k:Nat}{xs:List β}(h:In w A n c xs)(a:k<=n):In w A k c (xs.take k):=Sl.take h a
theorem Stk.made {α:Type}[Flat α]{w:World}{B:Nat}{e:TypeId}{xs:List α}{arr:Array Value}(a:arr.toList=xs.flatMap Flat.cs)(d: ∀x∈xs,Flat.ok x)(b:B<=w.heap.size)(f:xs.length<=4096):
  Stk B (w.alloc (.cells arr e)) e (some ⟨w.heap.size,0,none⟩) xs.length xs:=by
 have c:arr.size=xs.length*Rep.size α:=by rw[<-Array.length_toList,a,oI]
 refine⟨⟨by rw[oI],.inr ⟨w.heap.size,xs.length,arr,rfl,b,heap_alloc_new w _,Nat.le_refl _,by simp only[maxLen];omega,c,?_⟩⟩,d⟩;rw[a,<-oI,List.take_length]
theorem Stk.at_ {α:Type}[Flat α]{w:World}{B g:Nat}{e:TypeId}{xs:List α}{arr:Array Value}(h:w.heap[g]?=some (.cells arr e (0,0)))(a:arr.toList=xs.flatMap Flat.cs)(f: ∀x∈xs,Flat.ok x)(b:B<=g){n:Nat}(d:xs.length=n)(i:n<=4096):
  Stk B w e (some ⟨g,0,none⟩) n xs:=by
 subst d;have c:arr.size=xs.length*Rep.size α:=by rw[<-Array.length_toList,a,oI]
 refine⟨⟨by rw[oI],.inr ⟨g,xs.length,arr,rfl,b,h,Nat.le_refl _,by simp only[maxLen];omega,c,?_⟩⟩,f⟩;rw[a,<-oI,List.take_length]
section
variable {α:Type}[Plain α]{P:Program}{w:World}
end
theorem yH:Elem Tryz.prog 33 3 1 8:=BJ (.int .i64 0) Tryz.underlying33 (by kernel_rfl) rfl (by decide)
theorem vJ (s:ByteArray): ∀(l:List Col) (k:Nat), -1<=fU s k l/\fU s k l<(k:Int)+l.length
 | [],k=>by rw[fU];simp;omega
 |x::l,k=>by
  rw[fU]
  split
  ·simp;omega
  ·have:=vJ s l (k+1);rw[List.length_cons];omega
theorem yS (cols:List Col)(s:ByteArray): -1<=index cols s/\index cols s<cols.length:=by
 have:=vJ s cols 0;rw[index];omega
def wS (cols:List Col)(names:List ByteArray)(i:Nat)(s:ByteArray):Int:=if index cols s<0 then 5 else if mD (names.take i) s then 6 else 0
def lF (cols:List Col)(names:List ByteArray):Int:=eH (wS cols names) 0 names
def gK (cols:List Col)(names:List ByteArray):Int×List Int:=if lF cols names≠0 then(lF cols names,[]) else(0,names.map (index cols))
theorem qx (w:World)(A:Option Addr)(n c:Nat)(cols:List Col)(y:In w A n c cols)(B:Option Addr)(a c2:Nat)(names:List ByteArray)(z:In w B a c2 names)(hn:a<=1048576)(ag:n<=1048576):
  Calls Tryz.prog 52 #[.slice A n c,.slice B a c2] w
   λe w'=>(∃v,e=.returned (.tuple #[v,.int .i64 (gK cols names).1])/\OL 3 w.heap.size (λ_=>False) [] w' v (gK cols names).2)/\Below w.heap.size w w':=by
 have m:=Hm (show gK cols names=if lF cols names≠0 then(lF cols names,[]) else(0,names.map (index cols)) from rfl);obtain⟨R,t⟩: ∃R,gK cols names=R:=⟨_,rfl⟩;rw[t]at m;rw[t];clear t;have E:=Hm y;have f:=Hm z;have ac:=z.le;have ad:=y.le;clear y z;go_enter Tryz.func52,Tryz.ntmps52;go_wp2;go_loopw [6,12] (λo i wr=> ∃(k:Nat) (zs:List Int),k<=a/\i=.int .i64 k/\zs=(names.take k).map (index cols)/\zs.length<=k/\lF cols names=eH (wS cols names) k (names.drop k)/\OL 3 w.heap.size (λ_=>False) [] wr o zs/\Below w.heap.size w wr) (λ_ i _=>a-(RowKit.intOf i).toNat)
 case atStart=>exact⟨0,[],Nat.zero_le _,rfl,by simp,by simp,rfl,OL.nil IK,IJ⟩
 case round=>
  obtain⟨k,zs,X,rfl,M,ah,H,K,hb⟩:=hrel;have F:=Hm M;have p:=Hm H;have D:=Hm K;have l:=Hm hb;clear M H K hb;by_cases Y:k<a
  ·obtain⟨b,off,s,rfl,ae,q,T,e1⟩:=(f.o.b l.o).str Y;have k0:(0:Int)<=(k:Int):=by omega
   have k1:(k:Int)<(a:Int):=by omega
   have kc:(k:Int)<=(c2:Int):=by have:=f.o.cap;omega
   have af:=f.o.cap;obtain⟨r,x⟩: ∃r,index cols s=r:=⟨_,rfl⟩;have V:=yS cols s;rw[x,E.o.len]at V;have g:=Hm x;clear x;go_wp2_with fail;refine(wT _ A n c cols (by exact E.o.b l.o) s).mono ?_;rintro e w1 ⟨rfl,u⟩;rw[g.o];have P:=Hm (D.o.b u);have d:=Hm (eu l.o u);have S:=Hm ((f.o.b d.o).take X);clear u T;by_cases J:r<0
   ·have j:Hl (R=(5,[])):=Hm (by
     have h:lF cols names=5:=by rw[p.o,q.o];exact fI (by rw[wS,g.o,if_pos J]) Ho
     rw[m.o,h,if_pos Ho])
    obtain rfl:=j.o;go_wp2;all_goals(try(exfalso;go_light;simp_all;done));go_ret2;exact⟨⟨_,rfl,OL.nil d.o.size⟩,d.o⟩
   ·have C:=Hm J;go_wp2_with fail;refine(yO _ _ k c2 (names.take k) (by exact S.o) s).mono ?_;rintro e w2 ⟨rfl,rfl⟩;cases I:mD (names.take k) s
    ·have O:Hl (lF cols names=eH (wS cols names) (k+1) (names.drop (k+1))):=Hm (by
      rw[p.o,q.o];exact gG (by rw[wS,g.o,if_neg (by have:=C.o;omega),I];rfl))
     have Z:Hl ((names.take (k+1)).map (index cols)=zs++[r]):=Hm (by rw[gJ q.o,List.map_append,F.o,List.map_cons,g.o];rfl);have aa:zs.length+1<=maxLen:=by simp only[maxLen];omega
     have ab:(zs.length+1)*8<=140737488355328:=by omega
     go_wp2_with (at_builtin;refine gD _ rfl _ _ _ rfl yH II _ _ rfl P.o rfl rfl r ⟨rfl,⟨Ho,Ho⟩⟩ aa ab ?_;intro v1 w9 L G W U);have Q:=Hm L;have N:=Hm (d.o.trans G);clear L G W U;go_wp2;go_roundw
     case rel=>exact⟨k+1,zs++[r],Ho,by go_num,Z.o.symm,by simp;omega,O.o,Q.o,N.o⟩
     case measure=>simp[RowKit.intOf];omega
    ·have j:Hl (R=(6,[])):=Hm (by
      have h:lF cols names=6:=by rw[p.o,q.o];exact fI (by rw[wS,g.o,if_neg (by have:=C.o;omega),I];rfl) Ho
      rw[m.o,h,if_pos Ho])
     obtain rfl:=j.o;go_wp2;all_goals(try(exfalso;go_light;simp_all;done));go_ret2;exact⟨⟨_,rfl,OL.nil d.o.size⟩,d.o⟩
  ·have j:Hl (R=(0,zs)):=Hm (by
    have h:lF cols names=0:=by rw[p.o,fG f.o.len Ho,eH]
    rw[m.o,h,if_neg Ho,F.o,List.take_of_length_le (by have:=f.o.len;omega)])
   obtain rfl:=j.o;go_wp2;all_goals(try(exfalso;go_light;simp_all;done));go_ret2;exact⟨⟨_,rfl,D.o⟩,l.o⟩
theorem lU (w:World)(A:Option Addr)(n c:Nat)(cols:List Col)(x:In w A n c cols)(z:Option Addr)(d c2:Nat)(names:List ByteArray)(y:In w z d c2 names)(hn:d<=1048576)(ag:n<=1048576):
  Calls Tryz.prog 104 #[.slice A n c,.slice z d c2] w
   λe w'=>(∃v,e=.returned (.tuple #[v,.int .i64 (gK cols names).1])/\OL 3 w.heap.size (λ_=>False) [] w' v (gK cols names).2)/\Below w.heap.size w w':=by
 have l:=Hm (show gK cols names=if lF cols names≠0 then(lF cols names,[]) else(0,names.map (index cols)) from rfl);obtain⟨R,t⟩: ∃R,gK cols names=R:=⟨_,rfl⟩;rw[t]at l;rw[t];clear t;have D:=Hm x;have f:=Hm y;have ac:=y.le;have ad:=x.le;clear x y;go_enter Tryz.func104,Tryz.ntmps104;go_wp2;go_loopw [6,7] (λo i wr=> ∃(k:Nat) (zs:List Int),k<=d/\i=.int .i64 k/\zs=(names.take k).map (index cols)/\zs.length<=k/\lF cols names=eH (wS cols names) k (names.drop k)/\OL 3 w.heap.size (λ_=>False) [] wr o zs/\Below w.heap.size w wr) (λ_ i _=>d-(RowKit.intOf i).toNat)
 case atStart=>exact⟨0,[],Nat.zero_le _,rfl,by simp,by simp,rfl,OL.nil IK,IJ⟩
 case round=>
  obtain⟨k,zs,X,rfl,L,ah,G,J,hb⟩:=hrel;have E:=Hm L;have m:=Hm G;have C:=Hm J;have a:=Hm hb;clear L G J hb;by_cases Y:k<d
  ·obtain⟨b,off,s,rfl,ae,p,S,e1⟩:=(f.o.b a.o).str Y;have k0:(0:Int)<=(k:Int):=by omega
   have k1:(k:Int)<(d:Int):=by omega
   have kc:(k:Int)<=(c2:Int):=by have:=f.o.cap;omega
   have af:=f.o.cap;obtain⟨r,u⟩: ∃r,index cols s=r:=⟨_,rfl⟩;have U:=yS cols s;rw[u,D.o.len]at U;have g:=Hm u;clear u;have Q:=Hm ((f.o.b a.o).take X);go_wp2_with fail;refine(rq _ A n c cols (by exact D.o.b a.o) s).mono ?_;rintro e w1 ⟨rfl,rfl⟩;rw[g.o];by_cases I:r<0
   ·have j:Hl (R=(5,[])):=Hm (by
     have h:lF cols names=5:=by rw[m.o,p.o];exact fI (by rw[wS,g.o,if_pos I]) Ho
     rw[l.o,h,if_pos Ho])
    obtain rfl:=j.o;go_wp2;all_goals(try(exfalso;go_light;simp_all;done));go_ret2;exact⟨⟨_,rfl,OL.nil a.o.size⟩,a.o⟩
   ·have B:=Hm I;go_wp2;go_region_held3 (λV=>V.cell? ⟨b,off+k,none⟩=some (.string s)) (exact S) (first|(go_at_call 138;refine(BO _ _ k c2 (names.take k) (by exact Q.o.b (IJ).drew) s).mono ?_;rintro e w2 ⟨rfl,rfl⟩));have P:=Hm (C.o.b (IJ).drew);have q:=Hm (a.o.drew);cases H:mD (names.take k) s
    ·have N:Hl (lF cols names=eH (wS cols names) (k+1) (names.drop (k+1))):=Hm (by
      rw[m.o,p.o];exact gG (by rw[wS,g.o,if_neg (by have:=B.o;omega),H];rfl))
     have Z:Hl ((names.take (k+1)).map (index cols)=zs++[r]):=Hm (by rw[gJ p.o,List.map_append,E.o,List.map_cons,g.o];rfl);have aa:zs.length+1<=maxLen:=by simp only[maxLen];omega
     have ab:(zs.length+1)*8<=140737488355328:=by omega
     go_wp2_with (at_builtin;refine gD _ rfl _ _ _ rfl yH II _ _ rfl P.o rfl rfl r ⟨rfl,⟨Ho,Ho⟩⟩ aa ab ?_;intro v1 w9 K F W T);have O:=Hm K;have M:=Hm (q.o.trans F);clear K F W T;go_wp2;go_roundw
     case rel=>exact⟨k+1,zs++[r],Ho,by go_num,Z.o.symm,by simp;omega,N.o,O.o,M.o⟩
     case measure=>simp[RowKit.intOf];omega
    ·have j:Hl (R=(6,[])):=Hm (by
      have h:lF cols names=6:=by rw[m.o,p.o];exact fI (by rw[wS,g.o,if_neg (by have:=B.o;omega),H];rfl) Ho
      rw[l.o,h,if_pos Ho])
     obtain rfl:=j.o;go_wp2;all_goals(try(exfalso;go_light;simp_all;done));go_ret2;exact⟨⟨_,rfl,OL.nil q.o.size⟩,q.o⟩
  ·have j:Hl (R=(0,zs)):=Hm (by
    have h:lF cols names=0:=by rw[m.o,fG f.o.len Ho,eH]
    rw[l.o,h,if_neg Ho,E.o,List.take_of_length_le (by have:=f.o.len;omega)])
   obtain rfl:=j.o;go_wp2;all_goals(try(exfalso;go_light;simp_all;done));go_ret2;exact⟨⟨_,rfl,C.o⟩,a.o⟩
structure Chk where
 name:ByteArray
 table:ByteArray
 kind:Int
 cols:List ByteArray
 other:ByteArray
 ocols:List ByteArray
 low:Int
 high:Int
 cond:List Node
 ln:Int
 ld:Int
 mn:Int
 md:Int
 policy:Int
instance:Inhabited Chk:=⟨⟨⟨#[]⟩,⟨#[]⟩,0,[],⟨#[]⟩,[],0,0,[],0,0,0,0,0⟩⟩
instance:Rep Chk where
 size:=14
 rd w S cs x:= ∃A n c A' n' c' A'' n'' c'',cs=[.string x.name,.string x.table,.int .i64 x.kind,.slice A n c,.string x.other,.slice A' n' c',.int .i64 x.low,.int .i64 x.high,.slice A'' n'' c'',.int .i64 x.ln,.int .i64 x.ld,.int .i64 x.mn,.int .i64 x.md,.int .i64 x.policy]/\
  Sl w S A n c x.cols/\Sl w S A' n' c' x.ocols/\Sl w S A'' n'' c'' x.cond/\(Str x.name/\Str x.table/\jP x.kind/\Str x.other/\jP x.low/\jP x.high/\jP x.ln/\jP x.ld/\jP x.mn/\jP x.md/\jP x.policy)
 len h:=by obtain⟨_,_,_,_,_,_,_,_,_,rfl,_⟩:=h;rfl
 keep hs h:=by obtain⟨A,n,c,A',n',c',A'',n'',c'',rfl,h1,h2,h3,h4⟩:=h;exact⟨A,n,c,A',n',c',A'',n'',c'',rfl,h1.keep hs,h2.keep hs,h3.keep hs,h4⟩
 mono hs h:=by obtain⟨A,n,c,A',n',c',A'',n'',c'',rfl,h1,h2,h3,h4⟩:=h;exact⟨A,n,c,A',n',c',A'',n'',c'',rfl,h1.mono hs,h2.mono hs,h3.mono hs,h4⟩
def jk (k:Int):Bool:=k==3 || k==6
def l8 (k:Int):Bool:=k==4 || k==5
def iA (n d:Int):Bool:=decide (0<=n)&&decide (n<=1073741824)&&(decide (1<=d)&&decide (d<=1073741824))
def nA (c:Chk)(cols a:List Col):Int:=
 if (gK cols c.cols).1≠0 then(gK cols c.cols).1
 else if (gK cols c.cols).2.length=0\/((c.kind=2\/c.kind=6)/\1<(gK cols c.cols).2.length) then 8
 else if (c.kind=2\/c.kind=6)/\(cols.getD ((gK cols c.cols).2.getD 0 0).toNat default).kind≠2 then 7
 else if jk c.kind=false then 0
 else if fq a≠0 then fq a
 else if (gK a c.ocols).1≠0 then(gK a c.ocols).1
 else if (gK cols c.cols).2.length≠(gK a c.ocols).2.length then 8
 else if (List.zip (gK cols c.cols).2 (gK a c.ocols).2).any (λp=>(cols.getD p.1.toNat default).kind != (a.getD p.2.toNat default).kind) then 7 else 0
def ku (c:Chk)(cols:List Col)(zs:List Zone):Int:=
 if (ig c.cond cols zs).1≠0 then(ig c.cond cols zs).1 else if (ig c.cond cols zs).2.kind≠1/\(ig c.cond cols zs).2.kind≠0 then 7 else 0
def gF (c:Chk)(cols a:List Col)(zs:List Zone):Int:=
 if c.kind<0\/6<c.kind\/c.policy<0\/2<c.policy then 1
 else if c.policy=0/\(c.kind=5\/c.kind=6) then 7
 else if fq cols≠0 then fq cols
 else if l8 c.kind=false then nA c cols a
 else if ku c cols zs≠0 then ku c cols zs
 else if c.kind=5/\(iA c.ln c.ld&&iA c.mn c.md)=false then 1 else 0
theorem uB (w:World)(k:Int):Calls Tryz.prog 57 #[.int .i64 k] w λe w'=>e=.returned (.bool (jk k))/\Below w.heap.size w w':=by
 rw[jk];cases a:(k==3)
 ·go_enter Tryz.func57,Tryz.ntmps57;go_wp2;go_ret;exact⟨eU II,IJ⟩
 ·go_enter Tryz.func57,Tryz.ntmps57;go_wp2;go_ret;exact⟨eU II,IJ⟩
theorem Il (w:World)(k:Int):Calls Tryz.prog 92 #[.int .i64 k] w λe w'=>e=.returned (.bool (l8 k))/\Below w.heap.size w w':=by
 rw[l8];cases a:(k==4)
 ·go_enter Tryz.func92,Tryz.ntmps92;go_wp2;go_ret;exact⟨eU II,IJ⟩
 ·go_enter Tryz.func92,Tryz.ntmps92;go_wp2;go_ret;exact⟨eU II,IJ⟩
def pG (n d:Int):Bool:=gX n&&(decide (1<=d)&&decide (d<=1073741824))
theorem CS (w:World)(n d:Int):Calls Tryz.prog 146 #[.agg #[.int .i64 n,.int .i64 d]] w λe w'=>e=.returned (.bool (pG n d))/\Below w.heap.size w w':=by
 rw[pG];cases hs:gX n
 ·go_enter Tryz.func146,Tryz.ntmps146;go_wp2_with fail;refine(jq n _).mono ?_;rintro e a ⟨rfl,rfl⟩;rw[hs];go_wp2;go_ret;exact⟨eU II,eB⟩
 ·by_cases b:1<=d
  ·by_cases c:d<=1073741824
   ·go_enter Tryz.func146,Tryz.ntmps146;go_wp2_with fail;refine(jq n _).mono ?_;rintro e a ⟨rfl,rfl⟩;rw[hs];go_wp2;go_ret;exact⟨eU (by simp[b,c]),eB⟩
   ·go_enter Tryz.func146,Tryz.ntmps146;go_wp2_with fail;refine(jq n _).mono ?_;rintro e a ⟨rfl,rfl⟩;rw[hs];go_wp2;go_ret;exact⟨eU (by simp[b,c]),eB⟩
  ·go_enter Tryz.func146,Tryz.ntmps146;go_wp2_with fail;refine(jq n _).mono ?_;rintro e a ⟨rfl,rfl⟩;rw[hs];go_wp2;go_ret;exact⟨eU (by simp;omega),eB⟩
theorem EJ {n d:Int}(h:pG n d=true):(-1073741824<=n/\n<=1073741824)/\1<=d/\d<=1073741824:=by
 rw[pG,gX]at h;simp at h;exact⟨h.1,h.2⟩
theorem Fu (w:World)(n d:Int):Calls Tryz.prog 124 #[.agg #[.int .i64 n,.int .i64 d]] w
  λe w'=>(∃a b:Int,e=.returned (.tuple #[.agg #[.int .i64 a,.int .i64 b],.bool (pG n d)]))/\Below w.heap.size w w':=by
 obtain⟨F,i⟩: ∃F,pG n d=F:=⟨_,rfl⟩;have s:=Hm i;rw[i];clear i;go_enter Tryz.func124,Tryz.ntmps124;go_wp2_with fail;refine(CS _ n d).mono ?_;rintro e f ⟨rfl,c⟩;rw[s.o];have z:=eu below_alloc2 c;have y:=eG (b:=w.heap.size) (o:=0) (v:=.int .i64 n) c (by simp;omega) (by simp[go_sem]);have g1:=eG (b:=w.heap.size) (o:=1) (v:=.int .i64 d) c (by simp;omega) (by simp[go_sem]);have k:=eG (b:=w.heap.size+1) (o:=0) (v:=.int .i64 0) c II (by simp[go_sem]);have l:=eG (b:=w.heap.size+1) (o:=1) (v:=.int .i64 0) c II (by simp[go_sem]);have p:gW f (w.heap.size+1) 25 2:=by
  have h:=(gW.made (w.alloc (.cells #[.int .i64 n,.int .i64 d] 25)) #[.int .i64 0,.int .i64 0] 25 2 rfl).b c
  rwa [World.size_alloc]at h
 have L:=p.frozen 0;have M:=p.frozen 1;have r:=Hm z;clear c z p;cases F
 ·go_wp2;refine bodyPost_ret (v:=.tuple #[.agg #[.int .i64 0,.int .i64 0],.bool false]) (by simp[results,Tryz.results124,go_sem,k,l]) rfl ⟨⟨0,0,rfl⟩,(r.o.setCell (Nat.le_succ _) _).setCell (Nat.le_succ _) _⟩
 ·obtain⟨⟨J,K⟩,O,t⟩:=EJ s.o;have R:IntKind.i64.wrap (-n)= -n:=IntWalk.i64_in _ Ho;go_wp2;go_region_held3 (λV=>V.cell? ⟨w.heap.size,0,none⟩=some (.int .i64 n)/\V.cell? ⟨w.heap.size,1,none⟩=some (.int .i64 d)) (first|exact⟨y,g1⟩|go_keep) (fail);have D:0<=max n (-n):=by omega
  have E:max n (-n)<=1073741824:=by omega
  generalize max n (-n)=A at*;go_wp2;go_loopw [4,5] (λC g wr=> ∃(a b:Int) (q:Nat),C=.int .i64 a/\g=.int .i64 b/\0<=a/\0<=b/\a<=1073741824/\b<=1073741824/\(0<a\/0<b)/\wr=f.drewN q) (λ_ g _=>(RowKit.intOf g).toNat)
  case atStart=>exact⟨A,d,1,rfl,rfl,D,Ho,E,t,.inr Ho,rfl⟩
  case round=>
   obtain⟨a,b,q,rfl,rfl,B,b1,N,b2,Q,rfl⟩:=hrel;by_cases j:b=0
   ·subst j;have G:¬a=0:=by omega
    have H:(a==0)=false:=by simpa using G
    have u:(f.drewN q).cell? ⟨w.heap.size,0,none⟩=some (.int .i64 n):=y;have x:(f.drewN q).cell? ⟨w.heap.size,1,none⟩=some (.int .i64 d):=g1;have s0:(f.drewN q).cell? ⟨w.heap.size+1,0,none⟩=some (.int .i64 0):=k;have s1:(f.drewN q).cell? ⟨w.heap.size+1,1,none⟩=some (.int .i64 0):=l;have y0:(f.drewN q).frozen? ⟨w.heap.size+1,0,none⟩=false:=L;have y1:(f.drewN q).frozen? ⟨w.heap.size+1,1,none⟩=false:=M;go_wp2;have c: ∀m:Int, -1073741824<=m->m<=1073741824-> -1073741824<=m.tdiv a/\m.tdiv a<=1073741824:=λm W X=>by
     have P:(m.tdiv a).natAbs<=m.natAbs:=by rw[Int.natAbs_tdiv];exact Nat.div_le_self _ _
     omega
    obtain⟨Y,Z⟩:=c n J K;obtain⟨q3,q4⟩:=c d Ho t;have T:IntKind.i64.wrap (n.tdiv a)=n.tdiv a:=IntWalk.i64_in _ Ho;have U:IntKind.i64.wrap (d.tdiv a)=d.tdiv a:=IntWalk.i64_in _ Ho;go_region_held3 (λV=>V.cell? ⟨w.heap.size,0,none⟩=some (.int .i64 n)/\V.cell? ⟨w.heap.size,1,none⟩=some (.int .i64 d)) (first|exact⟨u,x⟩|exact⟨eD (eD u (.inl Ho)) (.inl Ho),eD (eD x (.inl Ho)) (.inl Ho)⟩|go_keep) (fail);have c0:=eD (b':=w.heap.size+1) (o':=1) (v:=.int .i64 (d.tdiv a)) (iY (v:=.int .i64 (n.tdiv a)) (show(f.drewN (q+1)).cell? ⟨w.heap.size+1,0,none⟩=some (.int .i64 0) from k)) (.inr Ho);have c1:=iY (v:=.int .i64 (d.tdiv a)) (eD (b':=w.heap.size+1) (o':=0) (v:=.int .i64 (n.tdiv a)) (show(f.drewN (q+1)).cell? ⟨w.heap.size+1,1,none⟩=some (.int .i64 0) from l) (.inr Ho));go_wp2;refine bodyPost_ret (v:=.tuple #[.agg #[.int .i64 (n.tdiv a),.int .i64 (d.tdiv a)],.bool true]) (by simp[results,Tryz.results124,go_sem,c0,c1]) rfl ⟨⟨_,_,rfl⟩,((ib r.o).setCell (Nat.le_succ _) _).setCell (Nat.le_succ _) _⟩
   ·have H:(b != 0)=true:=by simpa using j
    have I:0<=a % b:=Int.emod_nonneg _ j;have S:a % b<b:=Int.emod_lt_of_pos _ Ho;go_wp2;go_quiet (fail);go_wp2;go_roundw
    case rel=>exact⟨b,a % b,q+nq,rfl,by first|rfl|(rw[Int.tmod_eq_emod_of_nonneg B]),b1,I,b2,Ho,.inl Ho,by first|exact World.drewN_drewN|(rw[World.drewN_drewN])⟩
    case measure=>simp[RowKit.intOf];omega
theorem zw (n d:Int):iA n d=(pG n d&&decide (0<=n)):=by
 rw[iA,pG,gX];by_cases h:0<=n
 ·have a: -1073741824<=n:=by omega
  simp[h,a]
 ·simp[h]
theorem Bl (w:World)(n d:Int):Calls Tryz.prog 95 #[.agg #[.int .i64 n,.int .i64 d]] w
  λe w'=>e=.returned (.bool (iA n d))/\Below w.heap.size w w':=by
 rw[zw];obtain⟨F,m⟩: ∃F,pG n d=F:=⟨_,rfl⟩;have i:=λW=>Fu W n d;rw[m]at i⊢;clear m;have k:=Hm i;clear i;by_cases l:0<=n
 ·go_enter Tryz.func95,Tryz.ntmps95;go_wp2_with fail;refine(k.o _).mono ?_;rintro e j ⟨⟨a,b,rfl⟩,f⟩;have g:=eu eB f;have c:=eG (b:=w.heap.size) (o:=0) (v:=.int .i64 n) f II (by simp[go_sem]);have h:=Hm (g.alloc g.size (.cells #[.int .i64 a,.int .i64 b] 25));have g1:(j.alloc (.cells #[.int .i64 a,.int .i64 b] 25)).cell? ⟨w.heap.size,0,none⟩=some (.int .i64 n):=eG eB (lt_of_cell c) c;have p:=lt_of_cell c;clear f g;cases F
  ·go_wp2;go_ret;exact⟨eU II,h.o⟩
  ·go_wp2;go_ret;exact⟨eU (by simp[l]),h.o⟩
 ·go_enter Tryz.func95,Tryz.ntmps95;go_wp2_with fail;refine(k.o _).mono ?_;rintro e j ⟨⟨a,b,rfl⟩,f⟩;have g:=eu eB f;have c:=eG (b:=w.heap.size) (o:=0) (v:=.int .i64 n) f II (by simp[go_sem]);have h:=Hm (g.alloc g.size (.cells #[.int .i64 a,.int .i64 b] 25));have g1:(j.alloc (.cells #[.int .i64 a,.int .i64 b] 25)).cell? ⟨w.heap.size,0,none⟩=some (.int .i64 n):=eG eB (lt_of_cell c) c;have p:=lt_of_cell c;clear f g;cases F
  ·go_wp2;go_ret;exact⟨eU II,h.o⟩
  ·go_wp2;go_ret;exact⟨eU (by simp[l]),h.o⟩
theorem jJ (w:World)(x:Chk)(A:Option Addr)(n c:Nat)(A':Option Addr)(n' c':Nat)(A'':Option Addr)(n'' c'':Nat)(r:ByteArray)(d:Option Addr)(m c1:Nat)(g:Option Addr)(q j:Nat)(A3:Option Addr)(n3 c3:Nat)(on:ByteArray)(e:Option Addr)(p c2:Nat)(h:Option Addr)(nl cl:Nat)(f:Option Addr)(n4 c4:Nat):
  ∃W,W=((w.alloc (.cells #[.string x.name,.string x.table,.int .i64 x.kind,.slice A n c,.string x.other,.slice A' n' c',.int .i64 x.low,.int .i64 x.high,.slice A'' n'' c'',.int .i64 x.ln,.int .i64 x.ld,.int .i64 x.mn,.int .i64 x.md,.int .i64 x.policy] 27)).alloc (.cells #[.string r,.slice d m c1,.slice g q j,.slice A3 n3 c3] 32)).alloc (.cells #[.string on,.slice e p c2,.slice h nl cl,.slice f n4 c4] 32)/\Hl (W.heap.size=w.heap.size+1+1+1)/\Below w.heap.size w W/\Hl (∀V,Below W.heap.size W V->(w.heap.size<V.heap.size/\V.cell? ⟨w.heap.size,0,none⟩=some (.string x.name)/\V.cell? ⟨w.heap.size,1,none⟩=some (.string x.table)/\V.cell? ⟨w.heap.size,2,none⟩=some (.int .i64 x.kind)/\V.cell? ⟨w.heap.size,3,none⟩=some (.slice A n c)/\V.cell? ⟨w.heap.size,4,none⟩=some (.string x.other)/\V.cell? ⟨w.heap.size,5,none⟩=some (.slice A' n' c')/\V.cell? ⟨w.heap.size,6,none⟩=some (.int .i64 x.low)/\V.cell? ⟨w.heap.size,7,none⟩=some (.int .i64 x.high)/\V.cell? ⟨w.heap.size,8,none⟩=some (.slice A'' n'' c'')/\V.cell? ⟨w.heap.size,9,none⟩=some (.int .i64 x.ln)/\V.cell? ⟨w.heap.size,10,none⟩=some (.int .i64 x.ld)/\V.cell? ⟨w.heap.size,11,none⟩=some (.int .i64 x.mn)/\V.cell? ⟨w.heap.size,12,none⟩=some (.int .i64 x.md)/\V.cell? ⟨w.heap.size,13,none⟩=some (.int .i64 x.policy))/\(w.heap.size+1<V.heap.size/\V.cell? ⟨w.heap.size+1,0,none⟩=some (.string r)/\V.cell? ⟨w.heap.size+1,1,none⟩=some (.slice d m c1)/\V.cell? ⟨w.heap.size+1,2,none⟩=some (.slice g q j)/\V.cell? ⟨w.heap.size+1,3,none⟩=some (.slice A3 n3 c3))/\w.heap.size+1+1<V.heap.size/\V.cell? ⟨w.heap.size+1+1,0,none⟩=some (.string on)/\V.cell? ⟨w.heap.size+1+1,1,none⟩=some (.slice e p c2)/\V.cell? ⟨w.heap.size+1+1,2,none⟩=some (.slice h nl cl)/\V.cell? ⟨w.heap.size+1+1,3,none⟩=some (.slice f n4 c4)):=by
 obtain⟨B,t⟩: ∃W,W=w.alloc (.cells #[.string x.name,.string x.table,.int .i64 x.kind,.slice A n c,.string x.other,.slice A' n' c',.int .i64 x.low,.int .i64 x.high,.slice A'' n'' c'',.int .i64 x.ln,.int .i64 x.ld,.int .i64 x.mn,.int .i64 x.md,.int .i64 x.policy] 27):=⟨_,rfl⟩;obtain⟨M,i,E,g1,g2,g3,g4,g5,g6,J,K,L,F,G,H,I⟩:=gZ t rfl;obtain⟨C,u⟩: ∃W,W=B.alloc (.cells #[.string r,.slice d m c1,.slice g q j,.slice A3 n3 c3] 32):=⟨_,rfl⟩;obtain⟨y,s,N,O,P,Q⟩:=lM (b:=w.heap.size+1) u (by rw[i.o]);obtain⟨D,v⟩: ∃W,W=C.alloc (.cells #[.string on,.slice e p c2,.slice h nl cl,.slice f n4 c4] 32):=⟨_,rfl⟩;obtain⟨l,z,R,S,T,U⟩:=lM (b:=w.heap.size+1+1) v (by rw[s.o,i.o]);refine⟨D,by rw[v,u,t],by rw[Hl,z.o,s.o,i.o],eu (eu M y) l,λV k=>?_⟩;have a:=(lN E g1 g2 g3 g4 g5 g6 J K L F G H I).o V (eu (eu y l) k);have b:=(mr N O P Q).o V (eu l k);exact⟨a,b,(mr R S T U).o V k⟩
def Fx (l:List Int):Int:=l.foldl (λh x=>max h x) 0
theorem zu (l:List Int):raise l=Fx l+1:=by
 have key: ∀(l:List Int) (a:Int),l.foldl (λh x=>max h (1+x)) (a+1)=l.foldl (λh x=>max h x) a+1:=by
  intro l
  induction l with
  |nil=>intro a;rfl
  |cons x l b=>
   intro a;rw[List.foldl_cons,List.foldl_cons,<-b]
   congr 1
   omega
 exact key l 0
theorem Hy {l:List Int}{j:Nat}{x:Int}{r:List Int}(h:l.drop j=x::r):Fx (l.take (j+1))=max (Fx (l.take j)) x:=by
 have a:=iI h;rw[List.take_add_one,a.1];simp[Fx,List.foldl_append]
theorem Hu (w:World)(A:Option Addr)(r m c:Nat)(st:List Int)(b:In w A (r+m) c st)(a: ∀h∈st,1<=h/\h<=64)(E:r+m<=4096):
  Calls Tryz.prog 156 #[.slice A (r+m) c,.int .i64 (m:Int)] w λe w'=>e=.returned (.tuple #[.int .i64 (raise (st.drop r)),.slice A r c])/\Below w.heap.size w w':=by
 have B:=b.cap;have k: ∀j,1<=raise ((st.drop r).take j)/\raise ((st.drop r).take j)<=65:=λj=>zt λq u=>a q (List.mem_of_mem_drop (List.mem_of_mem_take u));have d:=Hm k;have v:=Hm a;have n:=Hm b.len;clear k a;go_enter Tryz.func156,Tryz.ntmps156;go_wp2
 go_loop [6,8] (λh i=> ∃j:Nat,j<=m/\i=.int .i64 ((r:Int)+(j:Int))/\h=.int .i64 (Fx ((st.drop r).take j))) (λ_ i=>r+m-(intOf i).toNat)
 case atStart=>exact⟨0,Nat.zero_le _,by simp,rfl⟩
 case round=>
  obtain⟨j,C,rfl,rfl⟩:=hrel;have f:=(d.o j).1;have g:=(d.o j).2;rw[zu]at f g;by_cases D:j<m
  ·obtain⟨x,L,y,rfl,z,t,M,N⟩:=b.int (show r+j<r+m by omega);have p:=Hm (Hy (l:=st.drop r) (j:=j) (by rw[List.drop_drop];exact t.o));have F:(0:Int)<=(r:Int)+(j:Int):=by omega
   have G:(r:Int)+(j:Int)<(r:Int)+(m:Int):=by omega
   have H:((r:Int)+(j:Int)).toNat=r+j:=by omega
   go_wp2
   go_round
   case rel=>exact⟨j+1,Ho,by go_num,by rw[p.o]⟩
   case measure=>simp[intOf];omega
  ·obtain rfl:j=m:=by omega
   have s:Hl ((st.drop r).take j=st.drop r):=Hm (List.take_of_length_le (by rw[List.length_drop,n.o];omega));rw[s.o]at f g⊢;have I:(0:Int)<=(r:Int):=by omega
   have J:(r:Int)<=(c:Int):=by omega
   have K:IntKind.i64.wrap (Fx (st.drop r)+1)=Fx (st.drop r)+1:=IntWalk.i64_in _ Ho;go_wp2;go_quiet (fail);go_wp2;go_ret2;exact⟨by rw[zu];rfl,below_drewN IJ _⟩
def FM (w:World)(b o:Nat)(x:Node):Prop:=w.cell? ⟨b,o,none⟩=some (.int .i64 x.op)/\w.cell? ⟨b,o+1,none⟩=some (.int .i64 x.value.kind)/\w.cell? ⟨b,o+2,none⟩=some (.int .i64 x.value.num)/\w.cell? ⟨b,o+3,none⟩=some (.string x.value.str)/\
  w.cell? ⟨b,o+4,none⟩=some (.string x.name)/\w.cell? ⟨b,o+5,none⟩=some (.int .i64 x.arity)
theorem FM.b {w w':World}{b o:Nat}{x:Node}(h:FM w b o x)(hb:Below w.heap.size w w')(a:b<w.heap.size):FM w' b o x:=
 ⟨eG hb a h.1,eG hb a h.2.1,eG hb a h.2.2.1,eG hb a h.2.2.2.1,eG hb a h.2.2.2.2.1,eG hb a h.2.2.2.2.2⟩
theorem CP (w:World)(A:Option Addr)(n c:Nat)(es:List Node)(D:In w A n c es):
  Calls Tryz.prog 134 #[.slice A n c] w λe w'=>e=.returned (.int .i64 (gY es))/\Below w.heap.size w w':=by
 have ai:=D.le;have W:=Hm D.len;obtain⟨i0,hi,af,ag,ah⟩:=info_parts Db;by_cases P:256<n
 ·have a:Hl (2=gY es):=Hm (by simp only[gY];rw[W.o,if_pos P]);go_enter Tryz.func134,Tryz.ntmps134;go_wp2;all_goals(go_ret;exact⟨eQ a.o,IJ⟩)
 have s:Hl (gY es=fZ [] es):=Hm (by simp only[gY];rw[W.o,if_neg P]);go_enter Tryz.func134,Tryz.ntmps134;go_wp2;go_loopw [3,4] (λv i wr=> ∃(k d:Nat) (st:List Int) (B:Option Addr) (y:Nat),k<=n/\d<=k/\i=.int .i64 k/\v=.slice B d y/\fZ [] es=fZ st (es.drop k)/\Hts w wr st d B y) (λ_ i _=>n-(intOf i).toNat)
 case atStart=>exact⟨0,0,[],none,0,Nat.zero_le _,Nat.zero_le _,rfl,rfl,rfl,⟨Stk.nil_ _ _ _,rfl,(λ_ h=>by cases h),IJ⟩⟩
 case round=>
  obtain⟨k,d,st,B,y,hk,aj,rfl,rfl,V,Y⟩:=hrel;have p:=Hm V;have f:=Hm Y;clear V Y;by_cases ac:k<n
  ·obtain⟨b,off,x,rfl,Q,j,K,f1,L,M,N,O,ad⟩:=(D.b f.o.b).node ac;have E:Hl (FM wr b (off+k*6) x):=Hm ⟨K,f1,L,M,N,O⟩;go_wp2_with fail;refine(CV x ad _).mono ?_;rintro e w1 ⟨rfl,z⟩;obtain⟨g0,g1,g2,g3,g4,g5⟩:=E.o.b z Q;have J:=Hm (E.o.b z Q);have H:=Hm (f.o.keep z);have z1:b<w1.heap.size:=by have:=z.size;omega
   clear z K f1 L M N O;cases C:shaped x
   ·have a:Hl (8=gY es):=Hm (by rw[s.o,p.o,j.o,fZ,if_pos (.inl C)]);go_wp2;go_ret;exact⟨eQ a.o,H.o.b⟩
   obtain⟨m,X⟩: ∃m:Nat,arity x.op x.arity=(m:Int):=⟨(arity x.op x.arity).toNat,by have:=mU C;omega⟩;have ak:m<=8:=by have:=(mU C).2;omega
   have t:=Hm X;have G:=Hm C;clear C X;go_wp2_with fail;refine(pK x _).mono ?_;rintro e w2 ⟨rfl,F⟩;rw[t.o];obtain⟨q0,q1,q2,q3,q4,q5⟩:=J.o.b F z1;have I:=Hm (H.o.keep F);clear F g0 g1 g2 g3 g4 g5;by_cases al:d<m
   ·have a:Hl (8=gY es):=Hm (by rw[s.o,p.o,j.o,fZ,if_pos (.inr (by rw[t.o,f.o.len];omega))]);go_wp2;go_ret;exact⟨eQ a.o,I.o.b⟩
   obtain⟨r,rfl⟩: ∃r,d=r+m:=⟨d-m,Ho⟩;go_wp2_with fail;refine(pK x _).mono ?_;rintro e w3 ⟨rfl,R⟩;rw[t.o];have g:=Hm (I.o.keep R);clear R q0 q1 q2 q3 q4 q5 E J;have aa:Hl (In w3 B (r+m) y st):=Hm (by have:=g.o.stk.inn;rw[g.o.len]at this;exact this);go_wp2_with fail;refine(Hu _ _ r m _ st aa.o g.o.bd Ho).mono ?_;rintro e w4 ⟨rfl,S⟩;have u:=Hm (g.o.keep S);clear S;have ae:=zt (l:=st.drop r) λq hq=>u.o.bd q (List.mem_of_mem_drop hq);obtain⟨am,an⟩:=ae;by_cases hh:64<raise (st.drop r)
   ·have a:Hl (2=gY es):=Hm (by rw[s.o,p.o,j.o,uK G.o t.o g.o.len hh]);go_wp2;go_ret;exact⟨eQ a.o,u.o.b⟩
   have HN:Hl (fZ [] es=fZ (st.take r++[raise (st.drop r)]) (es.drop (k+1))):=Hm (by rw[p.o,j.o,qN G.o t.o g.o.len Ho]);have ab:Hl (r<=st.length):=Hm (by rw[g.o.len];omega);have ao:w.heap.size<=w4.heap.size:=u.o.b.size;go_wp2_with (at_builtin;refine qI (α:=Int) _ rfl (.tmp 44) (.tmp 46) 33 rfl w.heap.size 3 i0 _ 8 Tryz.underlying33 hi af ag ah rfl (by decide) B y r st (u.o.stk.keep eB) ab.o rfl (raise (st.drop r)) (wR Ho) w4.heap.size rfl (gU _ _ _ _ rfl) Ho (by simp;omega) ?_;intro A' c' w5 Z T);have HP:=Hm (u.o.push Z T Ho);clear Z T;go_wp2;go_roundw
   case rel=>exact⟨k+1,r+1,_,A',c',Ho,Ho,by go_num,rfl,HN.o,HP.o⟩
   case measure=>simp[intOf];omega
  ·have j:=Hm (fG D.len (show n<=k by omega));by_cases U:d=1
   ·have a:Hl (0=gY es):=Hm (by rw[s.o,p.o,j.o,fZ,if_neg (by rw[f.o.len];omega)]);subst U;go_wp2;go_ret;exact⟨eQ a.o,f.o.b⟩
   ·have a:Hl (8=gY es):=Hm (by rw[s.o,p.o,j.o,fZ,if_pos (by rw[f.o.len];omega)]);have q1:((d:Int) != 1)=true:=by simp;omega
    clear U;go_wp2;go_ret;exact⟨eQ a.o,f.o.b⟩
end Go.Proofs.YthnelebakkggjaaGreatDoor
