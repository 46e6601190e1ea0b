/-
  expr.Validate: it returns exprErr. Slices of nodes of the call's own: their cells, appends onto them, slices cut off at a length. No program is in sight but for the shape of a node. schema.Indices, schema.Pick; warehouseref5.Indices, Pick. api.Check as data; the errors of check.Validate; check.usesOther, usesCond, exact.formed, exact.Reduce, check.share. exact.formed, exact.Reduce, check.share. A check and two relations, boxed: what every function of these begins with. (Printed by gen_all.py.) warehouseref8.Raise and Validate.
-/
import Derived.Test.YtopjjlmfilgngaaGreatDoorGan
namespace Go.Proofs.YtopjjlmfilgngaaGreatDoor
set_option maxHeartbeats 4000000
set_option maxRecDepth 100000
open Go.RowKit
set_option linter.unusedSimpArgs false
set_option linter.unusedVariables false
theorem In.node {w:World}{A:Option Addr}{n c k:Nat}{xs:List Node}(h:In w A n c xs)(d:k<n): ∃b off x,A=some ⟨b,off,none⟩/\b<w.heap.size/\Hl (xs.drop k=x::xs.drop (k+1))/\
  w.cell? ⟨b,off+k*6,none⟩=some (.int .i64 x.op)/\w.cell? ⟨b,off+k*6+1,none⟩=some (.int .i64 x.value.kind)/\w.cell? ⟨b,off+k*6+2,none⟩=some (.int .i64 x.value.num)/\w.cell? ⟨b,off+k*6+3,none⟩=some (.string x.value.str)/\
  w.cell? ⟨b,off+k*6+4,none⟩=some (.string x.name)/\w.cell? ⟨b,off+k*6+5,none⟩=some (.int .i64 x.arity)/\x.ok:=by
 obtain⟨b,off,x,e,hb,g,i,⟨rfl,f⟩,a⟩:=h.get d;exact⟨b,off,x,e,hb,g,a 0 (by simp[Node.cells]),a 1 (by simp[Node.cells]),a 2 (by simp[Node.cells]),a 3 (by simp[Node.cells]),a 4 (by simp[Node.cells]),a 5 (by simp[Node.cells]),f⟩
def iw (w:World)(b:Nat)(x:Node):Prop:=w.cell? ⟨b,0,none⟩=some (.int .i64 x.op)/\w.cell? ⟨b,1,none⟩=some (.int .i64 x.value.kind)/\w.cell? ⟨b,2,none⟩=some (.int .i64 x.value.num)/\w.cell? ⟨b,3,none⟩=some (.string x.value.str)/\
  w.cell? ⟨b,4,none⟩=some (.string x.name)/\w.cell? ⟨b,5,none⟩=some (.int .i64 x.arity)
theorem iw.below {w w':World}{b:Nat}{x:Node}(h:iw w b x)(hb:Below w.heap.size w w')(a:b<w.heap.size):iw w' b x:=
 ⟨fO hb a h.1,fO hb a h.2.1,fO hb a h.2.2.1,fO hb a h.2.2.2.1,fO hb a h.2.2.2.2.1,fO hb a h.2.2.2.2.2⟩
theorem iw.made (w:World)(x:Node):iw (w.alloc (.cells #[.int .i64 x.op,.int .i64 x.value.kind,.int .i64 x.value.num,.string x.value.str,.string x.name,.int .i64 x.arity] 89)) w.heap.size x:=by
 refine⟨?_,?_,?_,?_,?_,?_⟩<;>simp[go_sem]
theorem nu {n:Node}(h:shaped n=true):0<=arity n.op n.arity/\arity n.op n.arity<=8:=by
 obtain⟨a,v,nm,g⟩:=n;simp only[shaped]at h;unfold arity;by_cases b:a=0
 ·simp[b]
 rw[if_neg b]at h;by_cases c:a=21
 ·subst c;simp at h;simp;omega
 rw[if_neg c]at h;by_cases d:a=1
 ·simp[d]
 rw[if_neg d]at h;by_cases e:a=20
 ·simp[e]
 rw[if_neg e]at h;simp only[Bool.and_eq_true,decide_eq_true_eq]at h;have f:=h.2.2.2;refine⟨f,?_⟩
 (repeat' split)<;>omega
theorem Gt {l:List Int}{j:Nat}{x:Int}{r:List Int}(h:l.drop j=x::r):raise (l.take (j+1))=max (raise (l.take j)) (1+x):=by
 have a:=iR h;rw[List.take_add_one,a.1];simp[raise,List.foldl_append]
theorem zJ {l:List Int}(h: ∀x∈l,1<=x/\x<=64):1<=raise l/\raise l<=65:=by
 have key: ∀(l:List Int) (a:Int),(∀x∈l,1<=x/\x<=64)->1<=a/\a<=65->1<=l.foldl (λh x=>max h (1+x)) a/\l.foldl (λh x=>max h (1+x)) a<=65:=by
  intro l
  induction l with
  |nil=>intro a _ h;exact h
  |cons x l e=>
   intro a b f;have g:=b x (by simp);have c:1<=max a (1+x)/\max a (1+x)<=65:=by omega
   exact e _ (λy d=>b y (by simp[d])) c
 exact key l 1 h (by omega)
theorem Es:(Tryz.prog.info? 3).map (λi=>(i.zero,i.size,i.bytes))=some (some (.int .i64 0),1,8):=by kernel_rfl
structure Hts (w wr:World) (st:List Int) (d:Nat) (A:Option Addr) (c:Nat):Prop where
 stk:Stk w.heap.size wr 3 A c st
 len:st.length=d
 bd: ∀h∈st,1<=h/\h<=64
 below:Below w.heap.size w wr
theorem Hts.keep {w wr w':World}{st:List Int}{d:Nat}{A:Option Addr}{c:Nat}(h:Hts w wr st d A c)(hb:Below wr.heap.size wr w'):Hts w w' st d A c:=
 ⟨h.stk.keep hb,h.len,h.bd,fH h.below hb⟩
theorem sI {α:Type}[Flat α]{i:Nat}{f:World}{e:TypeId}{st:List α}{r m:Nat}{B:Option Addr}{a:Nat}(h:Stk i f e B a st)(c:st.length=r+m):
  (r=a/\m=0)\/(¬a=r/\ ∃g,B=some ⟨g,0,none⟩/\In f (some ⟨g,r*Rep.size α,none⟩) m (a-r) (st.drop r)):=by
 have j:=h.cap;rw[c]at j;by_cases b:a=r
 ·exact .inl ⟨b.symm,by omega⟩
 ·refine .inr ⟨b,?_⟩;rcases h.addr with rfl|⟨g,rfl⟩
  ·have:=h.none_ rfl;omega
  ·have d:=h.from_ (k:=r) (by rw[c];omega);rw[c,if_neg b,show r+m-r=m by omega,Option.map_some,mE,Nat.zero_add]at d;exact⟨g,rfl,d⟩
theorem Hts.push {w c b:World}{st:List Int}{r m:Nat}{B:Option Addr}{d:Nat}(h:Hts w c st (r+m) B d){o:Obj}{A':Option Addr}{c':Nat}{y:Int}(e:Stk w.heap.size b 3 A' c' (st.take r++[y]))(hb:Below w.heap.size (c.alloc o) b)(f:1<=y/\y<=64):
  Hts w b (st.take r++[y]) (r+1) A' c':=by
 refine⟨e,?_,?_,(fH h.below fI).trans hb⟩
 ·rw[List.length_append,List.length_take,h.len];simp
 ·intro q a;rcases List.mem_append.1 a with a|a
  ·exact h.bd q (List.mem_of_mem_take a)
  ·simp at a;subst a;exact f
theorem rG {x:Node}{r m:Nat}(a:arity x.op x.arity=(m:Int)):oz x (r+m)=r:=by
 rw[oz,a,Int.toNat_natCast];omega
theorem vg {x:Node}{l:List Node}{st:List Int}{r m:Nat}(d:shaped x=true)(b:arity x.op x.arity=(m:Int))(a:st.length=r+m)(c:64<raise (st.drop r)):gX st (x::l)=2:=by
 rw[gX,if_neg (by rw[d,b,a];simp;omega),a,rG b,if_pos c]
theorem qP {x:Node}{l:List Node}{st:List Int}{r m:Nat}(c:shaped x=true)(b:arity x.op x.arity=(m:Int))(a:st.length=r+m)(d:raise (st.drop r)<=64):gX st (x::l)=gX (st.take r++[raise (st.drop r)]) l:=by
 rw[gX,if_neg (by rw[c,b,a];simp;omega),a,rG b,if_neg (by omega)]
theorem xq {y:Int}(h:1<=y/\y<=65):jU y:=by unfold jU;omega
theorem Dh {α:Type}{l:List α}{r j:Nat}{x:α}{q:List α}(h:(l.drop r).drop j=x::q):x∈l:=by
 have a:x∈(l.drop r).drop j:=by rw[h];simp
 exact List.mem_of_mem_drop (List.mem_of_mem_drop a)
theorem Ee (w:World)(A:Option Addr)(n c:Nat)(es:List Node)(H:In w A n c es)(hw:Words w):
  Calls Tryz.prog 233 #[.slice A n c] w λe w'=>e=.returned (.int .i64 (iN es))/\Below w.heap.size w w':=by
 have aq:=H.le;have ab:=Hm H.len;obtain⟨i0,hi,ae,af,ag⟩:=info_parts Es;by_cases V:256<n
 ·have f:Hl (2=iN es):=Hm (by simp only[iN];rw[ab.o,if_pos V]);go_enter Tryz.func233,Tryz.ntmps233;go_wp2;all_goals(go_ret;exact⟨fV f.o,Below.refl _ _⟩)
 have u:Hl (iN es=gX [] es):=Hm (by simp only[iN];rw[ab.o,if_neg V]);go_enter Tryz.func233,Tryz.ntmps233;go_wp2;go_loopw [3,15] (λv i wr=> ∃(k d:Nat) (st:List Int) (B:Option Addr) (G:Nat),k<=n/\d<=k/\i=.int .i64 k/\v=.slice B d G/\gX [] es=gX st (es.drop k)/\Hts w wr st d B G) (λ_ i _=>n-(intOf i).toNat)
 case atStart=>exact⟨0,0,[],none,0,Nat.zero_le _,Nat.zero_le _,rfl,rfl,rfl,⟨Stk.nil_ _ _ _,rfl,(λ_ h=>by cases h),Below.refl _ _⟩⟩
 case round=>
  obtain⟨k,d,st,B,G,hk,au,rfl,rfl,Z,ad⟩:=hrel;have s:=Hm Z;have l:=Hm ad;clear Z ad;by_cases al:k<n
  ·obtain⟨b,off,x,rfl,hB,p,f0,f1,f2,f3,f4,f5,am⟩:=(H.below l.o.below).node al;have O:=Hm (iw.made wr x);go_wp2_with fail;refine(Gz x am _ (hw.below (fH l.o.below fI))).mono ?_;rintro e w1 ⟨rfl,z⟩;obtain⟨g0,g1,g2,g3,g4,g5⟩:=O.o.below z (by simp);have P:=Hm (O.o.below z (by simp));have T:=Hm ((l.o.keep fI).keep z);have z1:wr.heap.size<w1.heap.size:=by have:=z.size;simp at this;omega
   clear z f0 f1 f2 f3 f4 f5;cases E:shaped x
   ·have f:Hl (8=iN es):=Hm (by rw[u.o,s.o,p.o,gX,if_pos (.inl E)]);go_wp2;go_ret;exact⟨fV f.o,T.o.below⟩
   obtain⟨m,hm⟩: ∃m:Nat,arity x.op x.arity=(m:Int):=⟨(arity x.op x.arity).toNat,by have:=nu E;omega⟩;have av:m<=8:=by have:=(nu E).2;omega
   have t:=Hm hm;have M:=Hm E;clear E hm;go_wp2_with fail;refine(qV x _).mono ?_;rintro e w2 ⟨rfl,C⟩;rw[t.o];obtain⟨q0,q1,q2,q3,q4,q5⟩:=P.o.below C z1;have ai:=Hm (P.o.below C z1);have U:=Hm (T.o.keep C);have z2:wr.heap.size<w2.heap.size:=by have:=C.size;omega
   clear C g0 g1 g2 g3 g4 g5;by_cases aw:d<m
   ·have f:Hl (8=iN es):=Hm (by rw[u.o,s.o,p.o,gX,if_pos (.inr (by rw[t.o,l.o.len];omega))]);go_wp2;go_ret;exact⟨fV f.o,U.o.below⟩
   obtain⟨r,rfl⟩: ∃r,d=r+m:=⟨d-m,by omega⟩;go_wp2_with fail;refine(qV x _).mono ?_;rintro e I ⟨rfl,W⟩;rw[t.o];have a:=Hm (U.o.keep W);clear W q0 q1 q2 q3 q4 q5 O P ai;have aj:=a.o.stk.cap;rw[a.o.len]at aj;have X: ∀(j:Nat) (y:Int) (q:List Int),(st.drop r).drop j=y::q->1<=y/\y<=64:=λ_ _ _ h=>l.o.bd _ (Dh h);have ac: ∀j,1<=raise ((st.drop r).take j)/\raise ((st.drop r).take j)<=65:=λj=>zJ λq hq=>l.o.bd q (List.mem_of_mem_drop (List.mem_of_mem_take hq));have Q:=Hm X;have S:=Hm ac;clear X ac;rcases sI a.o.stk a.o.len with ⟨rfl,rfl⟩|⟨hc,g,rfl,aa⟩
   ·go_wp2
    go_loop [7,38] (λh i=>i=.int .i64 0/\h=.int .i64 1) (λ_ i=>0)
    case atStart=>exact⟨rfl,rfl⟩
    case round=>
     obtain⟨rfl,rfl⟩:=hrel;have R:Hl (raise (st.drop r)=1):=Hm (by rw[List.drop_eq_nil_of_le (by rw[a.o.len];omega)];rfl);have K:Hl (gX [] es=gX (st.take r++[1]) (es.drop (k+1))):=Hm (by rw[s.o,p.o,qP M.o t.o a.o.len (by rw[R.o];omega),R.o]);have J:Hl (r<=st.length):=Hm (by rw[a.o.len];omega);have ap:w.heap.size<=I.heap.size:=a.o.below.size;go_wp2_with (at_builtin;refine qJ (α:=Int) _ rfl (.tmp 51) (.tmp 53) 38 rfl w.heap.size 3 i0 _ 8 Tryz.underlying38 hi ae af ag rfl (by decide) B r r st (a.o.stk.keep fI) J.o rfl 1 (xq (by omega)) I.heap.size rfl (iI _ _ _ _ rfl) (by omega) (by simp;omega) ?_;intro A' c' w4 F D);have L:=Hm (a.o.push F D (by omega));clear F D;go_wp2;go_roundw
     case rel=>exact⟨k+1,r+1,_,A',c',by omega,by omega,by go_num,rfl,K.o,L.o⟩
     case measure=>simp[intOf];omega
   ·rw[show r*Rep.size Int=r from Nat.mul_one r]at aa;go_wp2
    go_loop [7,38] (λh i=> ∃j:Nat,j<=m/\i=.int .i64 j/\h=.int .i64 (raise ((st.drop r).take j))) (λ_ i=>m-(intOf i).toNat)
    case atStart=>exact⟨0,Nat.zero_le _,rfl,rfl⟩
    case round=>
     obtain⟨j,hj,rfl,rfl⟩:=hrel;have an:=(S.o j).1;have ao:=(S.o j).2;by_cases ak:j<m
     ·obtain⟨b',az,y,e,ar,N,y0,y1⟩:=aa.int ak;injection e with e;injection e with e_1 e_2;subst e_1 e_2;have ax:=(Q.o _ _ _ N.o).1;have ay:=(Q.o _ _ _ N.o).2;have HR:=Hm (Gt N.o);go_wp2
      go_round
      case rel=>exact⟨j+1,by omega,by go_num,by rw[HR.o]⟩
      case measure=>simp[intOf];omega
     ·obtain rfl:j=m:=by omega
      have ah:Hl ((st.drop r).take j=st.drop r):=Hm (List.take_of_length_le (by rw[List.length_drop,a.o.len];omega));rw[ah.o]at an ao⊢;by_cases hh:64<raise (st.drop r)
      ·have f:Hl (2=iN es):=Hm (by rw[u.o,s.o,p.o,vg M.o t.o a.o.len hh]);go_wp2;go_ret;exact⟨fV f.o,a.o.below⟩
      have K:Hl (gX [] es=gX (st.take r++[raise (st.drop r)]) (es.drop (k+1))):=Hm (by rw[s.o,p.o,qP M.o t.o a.o.len (by omega)]);have J:Hl (r<=st.length):=Hm (by rw[a.o.len];omega);have ap:w.heap.size<=I.heap.size:=a.o.below.size;go_wp2_with (at_builtin;refine qJ (α:=Int) _ rfl (.tmp 51) (.tmp 53) 38 rfl w.heap.size 3 i0 _ 8 Tryz.underlying38 hi ae af ag rfl (by decide) (some ⟨g,0,none⟩) G r st (a.o.stk.keep fI) J.o rfl (raise (st.drop r)) (xq (by omega)) I.heap.size rfl (iI _ _ _ _ rfl) (by omega) (by simp;omega) ?_;intro A' c' w4 F D);have L:=Hm (a.o.push F D (by omega));clear F D;go_wp2;go_roundw
      case rel=>exact⟨k+1,r+1,_,A',c',by omega,by omega,by go_num,rfl,K.o,L.o⟩
      case measure=>simp[intOf];omega
  ·have p:=Hm (gG H.len (show n<=k by omega));by_cases Y:d=1
   ·have f:Hl (0=iN es):=Hm (by rw[u.o,s.o,p.o,gX,if_neg (by rw[l.o.len];omega)]);subst Y;go_wp2;go_ret;exact⟨fV f.o,l.o.below⟩
   ·have f:Hl (8=iN es):=Hm (by rw[u.o,s.o,p.o,gX,if_pos (by rw[l.o.len];omega)]);have q1:((d:Int) != 1)=true:=by simp;omega
    clear Y;go_wp2;go_ret;exact⟨fV f.o,l.o.below⟩
instance:Flat Node where
 cs v:=v.cells
 ok v:=v.ok
 rd_mk _ _ _ h:=⟨rfl,h⟩
 cs_len _:=rfl
 cs_one v u hu:=by simp[Node.cells]at hu;rcases hu with rfl|rfl|rfl|rfl|rfl|rfl<;>rfl
 pos:=by decide
instance:Flat Col where
 cs v:=v.cells
 ok v:=v.ok
 rd_mk _ _ _ h:=⟨rfl,h⟩
 cs_len _:=rfl
 cs_one v u hu:=by simp[Col.cells]at hu;rcases hu with rfl|rfl|rfl<;>rfl
 pos:=by decide
instance:Flat ByteArray where
 cs v:=[.string v]
 ok v:=Str v
 rd_mk _ _ _ h:=⟨rfl,h⟩
 cs_len _:=rfl
 cs_one v u hu:=by simp at hu;subst hu;rfl
 pos:=by decide
class Plain (α:Type) extends Flat α where
 inv: ∀{w:World} {S:Nat->Prop} {cs:List Value} {a:α},Rep.rd w S cs a->cs=Flat.cs a/\Flat.ok a
instance:Plain Node:=⟨λh=>h⟩
instance:Plain Col:=⟨λh=>h⟩
instance:Plain Val:=⟨λh=>h⟩
instance:Plain ByteArray:=⟨λh=>h⟩
theorem Sl.take {β:Type}[Rep β]{w:World}{S:Nat->Prop}{A:Option Addr}{n c k:Nat}{xs:List β}(h:Sl w S A n c xs)(f:k<=n):Sl w S A k c (xs.take k):=by
 refine⟨by rw[List.length_take,h.1];omega,by have:=h.2.1;omega,h.2.2.1,h.2.2.2.1,λg=>?_⟩;obtain⟨b,off,e,hb,hi⟩:=h.2.2.2.2 (by omega);refine⟨b,off,e,hb,λi a=>?_⟩;have d:i<xs.length:=by rw[List.length_take]at a;omega
 have:=hi i d;rw[List.getElem_take];exact this
theorem In.take {β:Type}[Rep β]{w:World}{A:Option Addr}{n c k:Nat}{xs:List β}(h:In w A n c xs)(a:k<=n):In w A k c (xs.take k):=Sl.take h a
theorem Stk.made {α:Type}[Flat α]{w:World}{B:Nat}{e:TypeId}{xs:List α}{arr:Array Value}(a:arr.toList=xs.flatMap Flat.cs)(d: ∀x∈xs,Flat.ok x)(b:B<=w.heap.size)(f:xs.length<=4096):
  Stk B (w.alloc (.cells arr e)) e (some ⟨w.heap.size,0,none⟩) xs.length xs:=by
 have c:arr.size=xs.length*Rep.size α:=by rw[<-Array.length_toList,a,oO]
 refine⟨⟨by rw[oO],.inr ⟨w.heap.size,xs.length,arr,rfl,b,heap_alloc_new w _,Nat.le_refl _,by simp only[maxLen];omega,c,?_⟩⟩,d⟩;rw[a,<-oO,List.take_length]
theorem Stk.at_ {α:Type}[Flat α]{w:World}{B g:Nat}{e:TypeId}{xs:List α}{arr:Array Value}(h:w.heap[g]?=some (.cells arr e (0,0)))(a:arr.toList=xs.flatMap Flat.cs)(f: ∀x∈xs,Flat.ok x)(b:B<=g){n:Nat}(d:xs.length=n)(i:n<=4096):
  Stk B w e (some ⟨g,0,none⟩) n xs:=by
 subst d;have c:arr.size=xs.length*Rep.size α:=by rw[<-Array.length_toList,a,oO]
 refine⟨⟨by rw[oO],.inr ⟨g,xs.length,arr,rfl,b,h,Nat.le_refl _,by simp only[maxLen];omega,c,?_⟩⟩,f⟩;rw[a,<-oO,List.take_length]
section
variable {α:Type}[Plain α]{P:Program}{w:World}
end
theorem yU:Elem Tryz.prog 38 3 1 8:=mU (.int .i64 0) Tryz.underlying38 (by kernel_rfl) rfl (by decide)
theorem wz (s:ByteArray): ∀(l:List Col) (k:Nat), -1<=gV s k l/\gV s k l<(k:Int)+l.length
 | [],k=>by rw[gV];simp;omega
 |x::l,k=>by
  rw[gV]
  split
  ·simp;omega
  ·have:=wz s l (k+1);rw[List.length_cons];omega
theorem zk (cols:List Col)(s:ByteArray): -1<=index cols s/\index cols s<cols.length:=by
 have:=wz s cols 0;rw[index];omega
def xu (cols:List Col)(names:List ByteArray)(i:Nat)(s:ByteArray):Int:=if index cols s<0 then 5 else if mG (names.take i) s then 6 else 0
def lK (cols:List Col)(names:List ByteArray):Int:=fQ (xu cols names) 0 names
def il (cols:List Col)(names:List ByteArray):Int×List Int:=if lK cols names≠0 then(lK cols names,[]) else(0,names.map (index cols))
theorem tX (w:World)(A:Option Addr)(n c:Nat)(cols:List Col)(x:In w A n c cols)(A2:Option Addr)(n2 c2:Nat)(names:List ByteArray)(y:In w A2 n2 c2 names)(hn:n2<=1048576)(ae:n<=1048576):
  Calls Tryz.prog 108 #[.slice A n c,.slice A2 n2 c2] w
   λe w'=>(∃v,e=.returned (.tuple #[v,.int .i64 (il cols names).1])/\OL 3 w.heap.size (λ_=>False) [] w' v (il cols names).2)/\Below w.heap.size w w':=by
 have l:=Hm (show il cols names=if lK cols names≠0 then(lK cols names,[]) else(0,names.map (index cols)) from rfl);obtain⟨R,q⟩: ∃R,il cols names=R:=⟨_,rfl⟩;rw[q]at l;rw[q];clear q;have C:=Hm x;have d:=Hm y;have aa:=y.le;have ab:=x.le;clear x y;go_enter Tryz.func108,Tryz.ntmps108;go_wp2;go_loopw [6,12] (λo i wr=> ∃(k:Nat) (zs:List Int),k<=n2/\i=.int .i64 k/\zs=(names.take k).map (index cols)/\zs.length<=k/\lK cols names=fQ (xu cols names) k (names.drop k)/\OL 3 w.heap.size (λ_=>False) [] wr o zs/\Below w.heap.size w wr) (λ_ i _=>n2-(RowKit.intOf i).toNat)
 case atStart=>exact⟨0,[],Nat.zero_le _,rfl,by simp,by simp,rfl,OL.nil (Nat.le_refl _),Below.refl _ _⟩
 case round=>
  obtain⟨k,zs,V,rfl,K,af,F,I,hb⟩:=hrel;have D:=Hm K;have m:=Hm F;have B:=Hm I;have j:=Hm hb;clear K F I hb;by_cases W:k<n2
  ·obtain⟨b,off,s,rfl,ac,p,Q,e1⟩:=(d.o.below j.o).str W;have k0:(0:Int)<=(k:Int):=by omega
   have k1:(k:Int)<(n2:Int):=by omega
   have kc:(k:Int)<=(c2:Int):=by have:=d.o.cap;omega
   have ad:=d.o.cap;obtain⟨r,u⟩: ∃r,index cols s=r:=⟨_,rfl⟩;have T:=zk cols s;rw[u,C.o.len]at T;have f:=Hm u;clear u;go_wp2_with fail;refine(xw _ A n c cols (by exact C.o.below j.o) s).mono ?_;rintro e w1 ⟨rfl,t⟩;rw[f.o];have N:=Hm (B.o.below t);have a:=Hm (fH j.o t);have P:=Hm ((d.o.below a.o).take V);clear t Q;by_cases H:r<0
   ·have h:Hl (R=(5,[])):=Hm (by
     have g:lK cols names=5:=by rw[m.o,p.o];exact gL (by rw[xu,f.o,if_pos H]) (by omega)
     rw[l.o,g,if_pos (by omega)])
    obtain rfl:=h.o;go_wp2;all_goals(try(exfalso;go_light;simp_all;done));go_ret2;exact⟨⟨_,rfl,OL.nil a.o.size⟩,a.o⟩
   ·have z:=Hm H;go_wp2_with fail;refine(zf _ _ k c2 (names.take k) (by exact P.o) s).mono ?_;rintro e w2 ⟨rfl,rfl⟩;cases G:mG (names.take k) s
    ·have M:Hl (lK cols names=fQ (xu cols names) (k+1) (names.drop (k+1))):=Hm (by
      rw[m.o,p.o];exact ig (by rw[xu,f.o,if_neg (by have:=z.o;omega),G];rfl))
     have X:Hl ((names.take (k+1)).map (index cols)=zs++[r]):=Hm (by rw[ic p.o,List.map_append,D.o,List.map_cons,f.o];rfl);have Y:zs.length+1<=maxLen:=by simp only[maxLen];omega
     have Z:(zs.length+1)*8<=140737488355328:=by omega
     go_wp2_with (at_builtin;refine gY _ rfl _ _ _ rfl yU (by simp) _ _ rfl N.o rfl rfl r ⟨rfl,⟨(by omega),(by omega)⟩⟩ Y Z ?_;intro v1 w9 J E U S);have O:=Hm J;have L:=Hm (a.o.trans E);clear J E U S;go_wp2;go_roundw
     case rel=>exact⟨k+1,zs++[r],by omega,by go_num,X.o.symm,by simp;omega,M.o,O.o,L.o⟩
     case measure=>simp[RowKit.intOf];omega
    ·have h:Hl (R=(6,[])):=Hm (by
      have g:lK cols names=6:=by rw[m.o,p.o];exact gL (by rw[xu,f.o,if_neg (by have:=z.o;omega),G];rfl) (by omega)
      rw[l.o,g,if_pos (by omega)])
     obtain rfl:=h.o;go_wp2;all_goals(try(exfalso;go_light;simp_all;done));go_ret2;exact⟨⟨_,rfl,OL.nil a.o.size⟩,a.o⟩
  ·have h:Hl (R=(0,zs)):=Hm (by
    have g:lK cols names=0:=by rw[m.o,gG d.o.len (by omega),fQ]
    rw[l.o,g,if_neg (by omega),D.o,List.take_of_length_le (by have:=d.o.len;omega)])
   obtain rfl:=h.o;go_wp2;all_goals(try(exfalso;go_light;simp_all;done));go_ret2;exact⟨⟨_,rfl,B.o⟩,j.o⟩
theorem l7 (w:World)(A:Option Addr)(n c:Nat)(cols:List Col)(u:In w A n c cols)(A2:Option Addr)(n2 c2:Nat)(names:List ByteArray)(x:In w A2 n2 c2 names)(hn:n2<=1048576)(ae:n<=1048576):
  Calls Tryz.prog 93 #[.slice A n c,.slice A2 n2 c2] w
   λe w'=>(∃v,e=.returned (.tuple #[v,.int .i64 (il cols names).1])/\OL 3 w.heap.size (λ_=>False) [] w' v (il cols names).2)/\Below w.heap.size w w':=by
 have j:=Hm (show il cols names=if lK cols names≠0 then(lK cols names,[]) else(0,names.map (index cols)) from rfl);obtain⟨R,q⟩: ∃R,il cols names=R:=⟨_,rfl⟩;rw[q]at j;rw[q];clear q;have B:=Hm u;have d:=Hm x;have aa:=x.le;have ab:=u.le;clear u x;go_enter Tryz.func93,Tryz.ntmps93;go_wp2;go_loopw [6,7] (λo i wr=> ∃(k:Nat) (zs:List Int),k<=n2/\i=.int .i64 k/\zs=(names.take k).map (index cols)/\zs.length<=k/\lK cols names=fQ (xu cols names) k (names.drop k)/\OL 3 w.heap.size (λ_=>False) [] wr o zs/\Below w.heap.size w wr) (λ_ i _=>n2-(RowKit.intOf i).toNat)
 case atStart=>exact⟨0,[],Nat.zero_le _,rfl,by simp,by simp,rfl,OL.nil (Nat.le_refl _),Below.refl _ _⟩
 case round=>
  obtain⟨k,zs,U,rfl,J,af,E,H,hb⟩:=hrel;have C:=Hm J;have l:=Hm E;have z:=Hm H;have a:=Hm hb;clear J E H hb;by_cases W:k<n2
  ·obtain⟨b,off,s,rfl,ac,m,P,e1⟩:=(d.o.below a.o).str W;have k0:(0:Int)<=(k:Int):=by omega
   have k1:(k:Int)<(n2:Int):=by omega
   have kc:(k:Int)<=(c2:Int):=by have:=d.o.cap;omega
   have ad:=d.o.cap;obtain⟨r,t⟩: ∃r,index cols s=r:=⟨_,rfl⟩;have S:=zk cols s;rw[t,B.o.len]at S;have f:=Hm t;clear t;have O:=Hm ((d.o.below a.o).take U);go_wp2_with fail;refine(rA _ A n c cols (by exact B.o.below a.o) s).mono ?_;rintro e w1 ⟨rfl,rfl⟩;rw[f.o];by_cases G:r<0
   ·have h:Hl (R=(5,[])):=Hm (by
     have g:lK cols names=5:=by rw[l.o,m.o];exact gL (by rw[xu,f.o,if_pos G]) (by omega)
     rw[j.o,g,if_pos (by omega)])
    obtain rfl:=h.o;go_wp2;all_goals(try(exfalso;go_light;simp_all;done));go_ret2;exact⟨⟨_,rfl,OL.nil a.o.size⟩,a.o⟩
   ·have y:=Hm G;go_wp2;go_region_held3 (λV=>V.cell? ⟨b,off+k,none⟩=some (.string s)) (exact P) (first|(go_at_call 133;refine(CL _ _ k c2 (names.take k) (by exact O.o.below (Below.refl _ _).drew) s).mono ?_;rintro e w2 ⟨rfl,rfl⟩));have N:=Hm (z.o.below (Below.refl _ _).drew);have p:=Hm (a.o.drew);cases F:mG (names.take k) s
    ·have L:Hl (lK cols names=fQ (xu cols names) (k+1) (names.drop (k+1))):=Hm (by
      rw[l.o,m.o];exact ig (by rw[xu,f.o,if_neg (by have:=y.o;omega),F];rfl))
     have X:Hl ((names.take (k+1)).map (index cols)=zs++[r]):=Hm (by rw[ic m.o,List.map_append,C.o,List.map_cons,f.o];rfl);have Y:zs.length+1<=maxLen:=by simp only[maxLen];omega
     have Z:(zs.length+1)*8<=140737488355328:=by omega
     go_wp2_with (at_builtin;refine gY _ rfl _ _ _ rfl yU (by simp) _ _ rfl N.o rfl rfl r ⟨rfl,⟨(by omega),(by omega)⟩⟩ Y Z ?_;intro v1 w9 I D T Q);have M:=Hm I;have K:=Hm (p.o.trans D);clear I D T Q;go_wp2;go_roundw
     case rel=>exact⟨k+1,zs++[r],by omega,by go_num,X.o.symm,by simp;omega,L.o,M.o,K.o⟩
     case measure=>simp[RowKit.intOf];omega
    ·have h:Hl (R=(6,[])):=Hm (by
      have g:lK cols names=6:=by rw[l.o,m.o];exact gL (by rw[xu,f.o,if_neg (by have:=y.o;omega),F];rfl) (by omega)
      rw[j.o,g,if_pos (by omega)])
     obtain rfl:=h.o;go_wp2;all_goals(try(exfalso;go_light;simp_all;done));go_ret2;exact⟨⟨_,rfl,OL.nil p.o.size⟩,p.o⟩
  ·have h:Hl (R=(0,zs)):=Hm (by
    have g:lK cols names=0:=by rw[l.o,gG d.o.len (by omega),fQ]
    rw[j.o,g,if_neg (by omega),C.o,List.take_of_length_le (by have:=d.o.len;omega)])
   obtain rfl:=h.o;go_wp2;all_goals(try(exfalso;go_light;simp_all;done));go_ret2;exact⟨⟨_,rfl,z.o⟩,a.o⟩
structure Chk where
 name:ByteArray
 table:ByteArray
 kind:Int
 cols:List ByteArray
 other:ByteArray
 ocols:List ByteArray
 low:Int
 high:Int
 cond:List Node
 ln:Int
 ld:Int
 mn:Int
 md:Int
 policy:Int
instance:Inhabited Chk:=⟨⟨⟨#[]⟩,⟨#[]⟩,0,[],⟨#[]⟩,[],0,0,[],0,0,0,0,0⟩⟩
instance:Rep Chk where
 size:=14
 rd w S cs x:= ∃A n c A' n' c' A'' n'' c'',cs=[.string x.name,.string x.table,.int .i64 x.kind,.slice A n c,.string x.other,.slice A' n' c',.int .i64 x.low,.int .i64 x.high,.slice A'' n'' c'',.int .i64 x.ln,.int .i64 x.ld,.int .i64 x.mn,.int .i64 x.md,.int .i64 x.policy]/\
  Sl w S A n c x.cols/\Sl w S A' n' c' x.ocols/\Sl w S A'' n'' c'' x.cond/\(Str x.name/\Str x.table/\jU x.kind/\Str x.other/\jU x.low/\jU x.high/\jU x.ln/\jU x.ld/\jU x.mn/\jU x.md/\jU x.policy)
 len h:=by obtain⟨_,_,_,_,_,_,_,_,_,rfl,_⟩:=h;rfl
 keep hs h:=by obtain⟨A,n,c,A',n',c',A'',n'',c'',rfl,h1,h2,h3,h4⟩:=h;exact⟨A,n,c,A',n',c',A'',n'',c'',rfl,h1.keep hs,h2.keep hs,h3.keep hs,h4⟩
 mono hs h:=by obtain⟨A,n,c,A',n',c',A'',n'',c'',rfl,h1,h2,h3,h4⟩:=h;exact⟨A,n,c,A',n',c',A'',n'',c'',rfl,h1.mono hs,h2.mono hs,h3.mono hs,h4⟩
def kI (k:Int):Bool:=k==3 || k==6
def mg (k:Int):Bool:=k==4 || k==5
def jb (n d:Int):Bool:=decide (0<=n)&&decide (n<=1073741824)&&(decide (1<=d)&&decide (d<=1073741824))
def mR (c:Chk)(cols a:List Col):Int:=
 if (il cols c.cols).1≠0 then(il cols c.cols).1
 else if (il cols c.cols).2.length=0\/((c.kind=2\/c.kind=6)/\1<(il cols c.cols).2.length) then 8
 else if (c.kind=2\/c.kind=6)/\(cols.getD ((il cols c.cols).2.getD 0 0).toNat default).kind≠2 then 7
 else if kI c.kind=false then 0
 else if gu a≠0 then gu a
 else if (il a c.ocols).1≠0 then(il a c.ocols).1
 else if (il cols c.cols).2.length≠(il a c.ocols).2.length then 8
 else if (List.zip (il cols c.cols).2 (il a c.ocols).2).any (λp=>(cols.getD p.1.toNat default).kind != (a.getD p.2.toNat default).kind) then 7 else 0
def kC (c:Chk)(cols:List Col)(zs:List Zone):Int:=
 if (iX c.cond cols zs).1≠0 then(iX c.cond cols zs).1 else if (iX c.cond cols zs).2.kind≠1/\(iX c.cond cols zs).2.kind≠0 then 7 else 0
def gQ (c:Chk)(cols a:List Col)(zs:List Zone):Int:=
 if c.kind<0\/6<c.kind\/c.policy<0\/2<c.policy then 1
 else if c.policy=0/\(c.kind=5\/c.kind=6) then 7
 else if gu cols≠0 then gu cols
 else if mg c.kind=false then mR c cols a
 else if kC c cols zs≠0 then kC c cols zs
 else if c.kind=5/\(jb c.ln c.ld&&jb c.mn c.md)=false then 1 else 0
theorem uP (w:World)(k:Int):Calls Tryz.prog 115 #[.int .i64 k] w λe w'=>e=.returned (.bool (kI k))/\Below w.heap.size w w':=by
 rw[kI];cases a:(k==3)
 ·go_enter Tryz.func115,Tryz.ntmps115;go_wp2;go_ret;exact⟨gp (by simp),Below.refl _ _⟩
 ·go_enter Tryz.func115,Tryz.ntmps115;go_wp2;go_ret;exact⟨gp (by simp),Below.refl _ _⟩
theorem JJ (w:World)(k:Int):Calls Tryz.prog 144 #[.int .i64 k] w λe w'=>e=.returned (.bool (mg k))/\Below w.heap.size w w':=by
 rw[mg];cases a:(k==4)
 ·go_enter Tryz.func144,Tryz.ntmps144;go_wp2;go_ret;exact⟨gp (by simp),Below.refl _ _⟩
 ·go_enter Tryz.func144,Tryz.ntmps144;go_wp2;go_ret;exact⟨gp (by simp),Below.refl _ _⟩
def pG (n d:Int):Bool:=iP n&&(decide (1<=d)&&decide (d<=1073741824))
theorem Ei (w:World)(n d:Int):Calls Tryz.prog 213 #[.agg #[.int .i64 n,.int .i64 d]] w λe w'=>e=.returned (.bool (pG n d))/\Below w.heap.size w w':=by
 rw[pG];cases hs:iP n
 ·go_enter Tryz.func213,Tryz.ntmps213;go_wp2_with fail;refine(uL n _).mono ?_;rintro e a ⟨rfl,rfl⟩;rw[hs];go_wp2;go_ret;exact⟨gp (by simp),fI⟩
 ·by_cases b:1<=d
  ·by_cases c:d<=1073741824
   ·go_enter Tryz.func213,Tryz.ntmps213;go_wp2_with fail;refine(uL n _).mono ?_;rintro e a ⟨rfl,rfl⟩;rw[hs];go_wp2;go_ret;exact⟨gp (by simp[b,c]),fI⟩
   ·go_enter Tryz.func213,Tryz.ntmps213;go_wp2_with fail;refine(uL n _).mono ?_;rintro e a ⟨rfl,rfl⟩;rw[hs];go_wp2;go_ret;exact⟨gp (by simp[b,c]),fI⟩
  ·go_enter Tryz.func213,Tryz.ntmps213;go_wp2_with fail;refine(uL n _).mono ?_;rintro e a ⟨rfl,rfl⟩;rw[hs];go_wp2;go_ret;exact⟨gp (by simp;omega),fI⟩
theorem FP {n d:Int}(h:pG n d=true):(-1073741824<=n/\n<=1073741824)/\1<=d/\d<=1073741824:=by
 rw[pG,iP]at h;simp at h;exact⟨h.1,h.2⟩
theorem Gv (w:World)(n d:Int):Calls Tryz.prog 186 #[.agg #[.int .i64 n,.int .i64 d]] w
  λe w'=>(∃a b:Int,e=.returned (.tuple #[.agg #[.int .i64 a,.int .i64 b],.bool (pG n d)]))/\Below w.heap.size w w':=by
 obtain⟨F,i⟩: ∃F,pG n d=F:=⟨_,rfl⟩;have s:=Hm i;rw[i];clear i;go_enter Tryz.func186,Tryz.ntmps186;go_wp2_with fail;refine(Ei _ n d).mono ?_;rintro e f ⟨rfl,c⟩;rw[s.o];have A:=fH below_alloc2 c;have y:=fO (b:=w.heap.size) (o:=0) (v:=.int .i64 n) c (by simp;omega) (by simp[go_sem]);have z:=fO (b:=w.heap.size) (o:=1) (v:=.int .i64 d) c (by simp;omega) (by simp[go_sem]);have k:=fO (b:=w.heap.size+1) (o:=0) (v:=.int .i64 0) c (by simp) (by simp[go_sem]);have l:=fO (b:=w.heap.size+1) (o:=1) (v:=.int .i64 0) c (by simp) (by simp[go_sem]);have p:iy f (w.heap.size+1) 46 2:=by
  have h:=(iy.made (w.alloc (.cells #[.int .i64 n,.int .i64 d] 46)) #[.int .i64 0,.int .i64 0] 46 2 rfl).below c
  rwa [World.size_alloc]at h
 have N:=p.frozen 0;have O:=p.frozen 1;have r:=Hm A;clear c A p;cases F
 ·go_wp2;refine bodyPost_ret (v:=.tuple #[.agg #[.int .i64 0,.int .i64 0],.bool false]) (by simp[results,Tryz.results186,go_sem,k,l]) rfl ⟨⟨0,0,rfl⟩,(r.o.setCell (Nat.le_succ _) _).setCell (Nat.le_succ _) _⟩
 ·obtain⟨⟨M,n2⟩,Q,t⟩:=FP s.o;have T:IntKind.i64.wrap (-n)= -n:=IntWalk.i64_in _ (by omega);go_wp2;go_region_held3 (λV=>V.cell? ⟨w.heap.size,0,none⟩=some (.int .i64 n)/\V.cell? ⟨w.heap.size,1,none⟩=some (.int .i64 d)) (first|exact⟨y,z⟩|go_keep) (fail);have H:0<=max n (-n):=by omega
  have I:max n (-n)<=1073741824:=by omega
  generalize max n (-n)=B at*;go_wp2;go_loopw [4,5] (λD g wr=> ∃(a b:Int) (q:Nat),D=.int .i64 a/\g=.int .i64 b/\0<=a/\0<=b/\a<=1073741824/\b<=1073741824/\(0<a\/0<b)/\wr=f.drewN q) (λ_ g _=>(RowKit.intOf g).toNat)
  case atStart=>exact⟨B,d,1,rfl,rfl,H,by omega,I,t,.inr (by omega),rfl⟩
  case round=>
   obtain⟨a,b,q,rfl,rfl,C,E,P,G,S,rfl⟩:=hrel;by_cases j:b=0
   ·subst j;have J:¬a=0:=by omega
    have K:(a==0)=false:=by simpa using J
    have u:(f.drewN q).cell? ⟨w.heap.size,0,none⟩=some (.int .i64 n):=y;have x:(f.drewN q).cell? ⟨w.heap.size,1,none⟩=some (.int .i64 d):=z;have s0:(f.drewN q).cell? ⟨w.heap.size+1,0,none⟩=some (.int .i64 0):=k;have s1:(f.drewN q).cell? ⟨w.heap.size+1,1,none⟩=some (.int .i64 0):=l;have y0:(f.drewN q).frozen? ⟨w.heap.size+1,0,none⟩=false:=N;have y1:(f.drewN q).frozen? ⟨w.heap.size+1,1,none⟩=false:=O;go_wp2;have c: ∀m:Int, -1073741824<=m->m<=1073741824-> -1073741824<=m.tdiv a/\m.tdiv a<=1073741824:=λm Y Z=>by
     have R:(m.tdiv a).natAbs<=m.natAbs:=by rw[Int.natAbs_tdiv];exact Nat.div_le_self _ _
     omega
    obtain⟨q1,q2⟩:=c n M n2;obtain⟨q3,q4⟩:=c d (by omega) t;have W:IntKind.i64.wrap (n.tdiv a)=n.tdiv a:=IntWalk.i64_in _ (by omega);have X:IntKind.i64.wrap (d.tdiv a)=d.tdiv a:=IntWalk.i64_in _ (by omega);go_region_held3 (λV=>V.cell? ⟨w.heap.size,0,none⟩=some (.int .i64 n)/\V.cell? ⟨w.heap.size,1,none⟩=some (.int .i64 d)) (first|exact⟨u,x⟩|exact⟨fM (fM u (.inl (by omega))) (.inl (by omega)),fM (fM x (.inl (by omega))) (.inl (by omega))⟩|go_keep) (fail);have c0:=fM (b':=w.heap.size+1) (o':=1) (v:=.int .i64 (d.tdiv a)) (iC (v:=.int .i64 (n.tdiv a)) (show(f.drewN (q+1)).cell? ⟨w.heap.size+1,0,none⟩=some (.int .i64 0) from k)) (.inr (by omega));have c1:=iC (v:=.int .i64 (d.tdiv a)) (fM (b':=w.heap.size+1) (o':=0) (v:=.int .i64 (n.tdiv a)) (show(f.drewN (q+1)).cell? ⟨w.heap.size+1,1,none⟩=some (.int .i64 0) from l) (.inr (by omega)));go_wp2;refine bodyPost_ret (v:=.tuple #[.agg #[.int .i64 (n.tdiv a),.int .i64 (d.tdiv a)],.bool true]) (by simp[results,Tryz.results186,go_sem,c0,c1]) rfl ⟨⟨_,_,rfl⟩,((iH r.o).setCell (Nat.le_succ _) _).setCell (Nat.le_succ _) _⟩
   ·have K:(b != 0)=true:=by simpa using j
    have L:0<=a % b:=Int.emod_nonneg _ j;have U:a % b<b:=Int.emod_lt_of_pos _ (by omega);go_wp2;go_quiet (fail);go_wp2;go_roundw
    case rel=>exact⟨b,a % b,q+nq,rfl,by first|rfl|(rw[Int.tmod_eq_emod_of_nonneg C]),E,L,G,by omega,.inl (by omega),by first|exact World.drewN_drewN|(rw[World.drewN_drewN])⟩
    case measure=>simp[RowKit.intOf];omega
theorem zL (n d:Int):jb n d=(pG n d&&decide (0<=n)):=by
 rw[jb,pG,iP];by_cases h:0<=n
 ·have a: -1073741824<=n:=by omega
  simp[h,a]
 ·simp[h]
theorem Ch (w:World)(n d:Int):Calls Tryz.prog 147 #[.agg #[.int .i64 n,.int .i64 d]] w
  λe w'=>e=.returned (.bool (jb n d))/\Below w.heap.size w w':=by
 rw[zL];obtain⟨F,m⟩: ∃F,pG n d=F:=⟨_,rfl⟩;have i:=λW=>Gv W n d;rw[m]at i⊢;clear m;have k:=Hm i;clear i;by_cases l:0<=n
 ·go_enter Tryz.func147,Tryz.ntmps147;go_wp2_with fail;refine(k.o _).mono ?_;rintro e j ⟨⟨a,b,rfl⟩,f⟩;have g:=fH fI f;have c:=fO (b:=w.heap.size) (o:=0) (v:=.int .i64 n) f (by simp) (by simp[go_sem]);have h:=Hm (g.alloc g.size (.cells #[.int .i64 a,.int .i64 b] 46));have q:(j.alloc (.cells #[.int .i64 a,.int .i64 b] 46)).cell? ⟨w.heap.size,0,none⟩=some (.int .i64 n):=fO fI (lt_of_cell c) c;have p:=lt_of_cell c;clear f g;cases F
  ·go_wp2;go_ret;exact⟨gp (by simp),h.o⟩
  ·go_wp2;go_ret;exact⟨gp (by simp[l]),h.o⟩
 ·go_enter Tryz.func147,Tryz.ntmps147;go_wp2_with fail;refine(k.o _).mono ?_;rintro e j ⟨⟨a,b,rfl⟩,f⟩;have g:=fH fI f;have c:=fO (b:=w.heap.size) (o:=0) (v:=.int .i64 n) f (by simp) (by simp[go_sem]);have h:=Hm (g.alloc g.size (.cells #[.int .i64 a,.int .i64 b] 46));have q:(j.alloc (.cells #[.int .i64 a,.int .i64 b] 46)).cell? ⟨w.heap.size,0,none⟩=some (.int .i64 n):=fO fI (lt_of_cell c) c;have p:=lt_of_cell c;clear f g;cases F
  ·go_wp2;go_ret;exact⟨gp (by simp),h.o⟩
  ·go_wp2;go_ret;exact⟨gp (by simp[l]),h.o⟩
theorem jN (w:World)(x:Chk)(A:Option Addr)(n c:Nat)(A':Option Addr)(n' c':Nat)(A'':Option Addr)(n'' c'':Nat)(p:ByteArray)(d:Option Addr)(l c1:Nat)(f:Option Addr)(m i:Nat)(A3:Option Addr)(n3 c3:Nat)(on:ByteArray)(A2:Option Addr)(n2 c2:Nat)(g:Option Addr)(nl cl:Nat)(e:Option Addr)(n4 c4:Nat):
  ∃W,W=((w.alloc (.cells #[.string x.name,.string x.table,.int .i64 x.kind,.slice A n c,.string x.other,.slice A' n' c',.int .i64 x.low,.int .i64 x.high,.slice A'' n'' c'',.int .i64 x.ln,.int .i64 x.ld,.int .i64 x.mn,.int .i64 x.md,.int .i64 x.policy] 48)).alloc (.cells #[.string p,.slice d l c1,.slice f m i,.slice A3 n3 c3] 29)).alloc (.cells #[.string on,.slice A2 n2 c2,.slice g nl cl,.slice e n4 c4] 29)/\Hl (W.heap.size=w.heap.size+1+1+1)/\Below w.heap.size w W/\Hl (∀V,Below W.heap.size W V->(w.heap.size<V.heap.size/\V.cell? ⟨w.heap.size,0,none⟩=some (.string x.name)/\V.cell? ⟨w.heap.size,1,none⟩=some (.string x.table)/\V.cell? ⟨w.heap.size,2,none⟩=some (.int .i64 x.kind)/\V.cell? ⟨w.heap.size,3,none⟩=some (.slice A n c)/\V.cell? ⟨w.heap.size,4,none⟩=some (.string x.other)/\V.cell? ⟨w.heap.size,5,none⟩=some (.slice A' n' c')/\V.cell? ⟨w.heap.size,6,none⟩=some (.int .i64 x.low)/\V.cell? ⟨w.heap.size,7,none⟩=some (.int .i64 x.high)/\V.cell? ⟨w.heap.size,8,none⟩=some (.slice A'' n'' c'')/\V.cell? ⟨w.heap.size,9,none⟩=some (.int .i64 x.ln)/\V.cell? ⟨w.heap.size,10,none⟩=some (.int .i64 x.ld)/\V.cell? ⟨w.heap.size,11,none⟩=some (.int .i64 x.mn)/\V.cell? ⟨w.heap.size,12,none⟩=some (.int .i64 x.md)/\V.cell? ⟨w.heap.size,13,none⟩=some (.int .i64 x.policy))/\(w.heap.size+1<V.heap.size/\V.cell? ⟨w.heap.size+1,0,none⟩=some (.string p)/\V.cell? ⟨w.heap.size+1,1,none⟩=some (.slice d l c1)/\V.cell? ⟨w.heap.size+1,2,none⟩=some (.slice f m i)/\V.cell? ⟨w.heap.size+1,3,none⟩=some (.slice A3 n3 c3))/\w.heap.size+1+1<V.heap.size/\V.cell? ⟨w.heap.size+1+1,0,none⟩=some (.string on)/\V.cell? ⟨w.heap.size+1+1,1,none⟩=some (.slice A2 n2 c2)/\V.cell? ⟨w.heap.size+1+1,2,none⟩=some (.slice g nl cl)/\V.cell? ⟨w.heap.size+1+1,3,none⟩=some (.slice e n4 c4)):=by
 obtain⟨W1,r⟩: ∃W,W=w.alloc (.cells #[.string x.name,.string x.table,.int .i64 x.kind,.slice A n c,.string x.other,.slice A' n' c',.int .i64 x.low,.int .i64 x.high,.slice A'' n'' c'',.int .i64 x.ln,.int .i64 x.ld,.int .i64 x.mn,.int .i64 x.md,.int .i64 x.policy] 48):=⟨_,rfl⟩;obtain⟨O,h,B,C,H,I,g4,J,K,L,M,N,D,E,F,G⟩:=iE r rfl;obtain⟨y,s⟩: ∃W,W=W1.alloc (.cells #[.string p,.slice d l c1,.slice f m i,.slice A3 n3 c3] 29):=⟨_,rfl⟩;obtain⟨u,q,P,Q,R,S⟩:=jV (b:=w.heap.size+1) s (by rw[h.o]);obtain⟨z,t⟩: ∃W,W=y.alloc (.cells #[.string on,.slice A2 n2 c2,.slice g nl cl,.slice e n4 c4] 29):=⟨_,rfl⟩;obtain⟨k,v,T,U,X,Y⟩:=jV (b:=w.heap.size+1+1) t (by rw[q.o,h.o]);refine⟨z,by rw[t,s,r],by rw[Hl,v.o,q.o,h.o],fH (fH O u) k,λV j=>?_⟩;have a:=(lq B C H I g4 J K L M N D E F G).o V (fH (fH u k) j);have b:=(kJ P Q R S).o V (fH k j);exact⟨a,b,(kJ T U X Y).o V j⟩
def Gx (l:List Int):Int:=l.foldl (λh x=>max h x) 0
theorem zK (l:List Int):raise l=Gx l+1:=by
 have key: ∀(l:List Int) (a:Int),l.foldl (λh x=>max h (1+x)) (a+1)=l.foldl (λh x=>max h x) a+1:=by
  intro l
  induction l with
  |nil=>intro a;rfl
  |cons x l b=>
   intro a;rw[List.foldl_cons,List.foldl_cons,<-b]
   congr 1
   omega
 exact key l 0
theorem Ju {l:List Int}{j:Nat}{x:Int}{r:List Int}(h:l.drop j=x::r):Gx (l.take (j+1))=max (Gx (l.take j)) x:=by
 have a:=iR h;rw[List.take_add_one,a.1];simp[Gx,List.foldl_append]
theorem Jr (w:World)(A:Option Addr)(r m c:Nat)(st:List Int)(b:In w A (r+m) c st)(a: ∀h∈st,1<=h/\h<=64)(E:r+m<=4096):
  Calls Tryz.prog 154 #[.slice A (r+m) c,.int .i64 (m:Int)] w λe w'=>e=.returned (.tuple #[.int .i64 (raise (st.drop r)),.slice A r c])/\Below w.heap.size w w':=by
 have B:=b.cap;have k: ∀j,1<=raise ((st.drop r).take j)/\raise ((st.drop r).take j)<=65:=λj=>zJ λq u=>a q (List.mem_of_mem_drop (List.mem_of_mem_take u));have d:=Hm k;have v:=Hm a;have n:=Hm b.len;clear k a;go_enter Tryz.func154,Tryz.ntmps154;go_wp2
 go_loop [6,8] (λh i=> ∃j:Nat,j<=m/\i=.int .i64 ((r:Int)+(j:Int))/\h=.int .i64 (Gx ((st.drop r).take j))) (λ_ i=>r+m-(intOf i).toNat)
 case atStart=>exact⟨0,Nat.zero_le _,by simp,rfl⟩
 case round=>
  obtain⟨j,C,rfl,rfl⟩:=hrel;have f:=(d.o j).1;have g:=(d.o j).2;rw[zK]at f g;by_cases D:j<m
  ·obtain⟨x,L,y,rfl,z,t,M,N⟩:=b.int (show r+j<r+m by omega);have p:=Hm (Ju (l:=st.drop r) (j:=j) (by rw[List.drop_drop];exact t.o));have F:(0:Int)<=(r:Int)+(j:Int):=by omega
   have G:(r:Int)+(j:Int)<(r:Int)+(m:Int):=by omega
   have H:((r:Int)+(j:Int)).toNat=r+j:=by omega
   go_wp2
   go_round
   case rel=>exact⟨j+1,by omega,by go_num,by rw[p.o]⟩
   case measure=>simp[intOf];omega
  ·obtain rfl:j=m:=by omega
   have s:Hl ((st.drop r).take j=st.drop r):=Hm (List.take_of_length_le (by rw[List.length_drop,n.o];omega));rw[s.o]at f g⊢;have I:(0:Int)<=(r:Int):=by omega
   have J:(r:Int)<=(c:Int):=by omega
   have K:IntKind.i64.wrap (Gx (st.drop r)+1)=Gx (st.drop r)+1:=IntWalk.i64_in _ (by omega);go_wp2;go_quiet (fail);go_wp2;go_ret2;exact⟨by rw[zK];rfl,below_drewN (Below.refl _ _) _⟩
def GX (w:World)(b o:Nat)(x:Node):Prop:=w.cell? ⟨b,o,none⟩=some (.int .i64 x.op)/\w.cell? ⟨b,o+1,none⟩=some (.int .i64 x.value.kind)/\w.cell? ⟨b,o+2,none⟩=some (.int .i64 x.value.num)/\w.cell? ⟨b,o+3,none⟩=some (.string x.value.str)/\
  w.cell? ⟨b,o+4,none⟩=some (.string x.name)/\w.cell? ⟨b,o+5,none⟩=some (.int .i64 x.arity)
theorem GX.below {w w':World}{b o:Nat}{x:Node}(h:GX w b o x)(hb:Below w.heap.size w w')(a:b<w.heap.size):GX w' b o x:=
 ⟨fO hb a h.1,fO hb a h.2.1,fO hb a h.2.2.1,fO hb a h.2.2.2.1,fO hb a h.2.2.2.2.1,fO hb a h.2.2.2.2.2⟩
theorem Ef (w:World)(A:Option Addr)(n c:Nat)(es:List Node)(D:In w A n c es):
  Calls Tryz.prog 129 #[.slice A n c] w λe w'=>e=.returned (.int .i64 (iN es))/\Below w.heap.size w w':=by
 have ai:=D.le;have W:=Hm D.len;obtain⟨i0,hi,af,ag,ah⟩:=info_parts Es;by_cases P:256<n
 ·have a:Hl (2=iN es):=Hm (by simp only[iN];rw[W.o,if_pos P]);go_enter Tryz.func129,Tryz.ntmps129;go_wp2;all_goals(go_ret;exact⟨fV a.o,Below.refl _ _⟩)
 have s:Hl (iN es=gX [] es):=Hm (by simp only[iN];rw[W.o,if_neg P]);go_enter Tryz.func129,Tryz.ntmps129;go_wp2;go_loopw [3,4] (λv i wr=> ∃(k d:Nat) (st:List Int) (B:Option Addr) (y:Nat),k<=n/\d<=k/\i=.int .i64 k/\v=.slice B d y/\gX [] es=gX st (es.drop k)/\Hts w wr st d B y) (λ_ i _=>n-(intOf i).toNat)
 case atStart=>exact⟨0,0,[],none,0,Nat.zero_le _,Nat.zero_le _,rfl,rfl,rfl,⟨Stk.nil_ _ _ _,rfl,(λ_ h=>by cases h),Below.refl _ _⟩⟩
 case round=>
  obtain⟨k,d,st,B,y,hk,aj,rfl,rfl,V,Y⟩:=hrel;have p:=Hm V;have f:=Hm Y;clear V Y;by_cases ac:k<n
  ·obtain⟨b,off,x,rfl,Q,j,K,f1,L,M,N,O,ad⟩:=(D.below f.o.below).node ac;have E:Hl (GX wr b (off+k*6) x):=Hm ⟨K,f1,L,M,N,O⟩;go_wp2_with fail;refine(El x ad _).mono ?_;rintro e w1 ⟨rfl,z⟩;obtain⟨g0,g1,g2,g3,g4,g5⟩:=E.o.below z Q;have J:=Hm (E.o.below z Q);have H:=Hm (f.o.keep z);have z1:b<w1.heap.size:=by have:=z.size;omega
   clear z K f1 L M N O;cases C:shaped x
   ·have a:Hl (8=iN es):=Hm (by rw[s.o,p.o,j.o,gX,if_pos (.inl C)]);go_wp2;go_ret;exact⟨fV a.o,H.o.below⟩
   obtain⟨m,X⟩: ∃m:Nat,arity x.op x.arity=(m:Int):=⟨(arity x.op x.arity).toNat,by have:=nu C;omega⟩;have ak:m<=8:=by have:=(nu C).2;omega
   have t:=Hm X;have G:=Hm C;clear C X;go_wp2_with fail;refine(pM x _).mono ?_;rintro e w2 ⟨rfl,F⟩;rw[t.o];obtain⟨q0,q1,q2,q3,q4,q5⟩:=J.o.below F z1;have I:=Hm (H.o.keep F);clear F g0 g1 g2 g3 g4 g5;by_cases al:d<m
   ·have a:Hl (8=iN es):=Hm (by rw[s.o,p.o,j.o,gX,if_pos (.inr (by rw[t.o,f.o.len];omega))]);go_wp2;go_ret;exact⟨fV a.o,I.o.below⟩
   obtain⟨r,rfl⟩: ∃r,d=r+m:=⟨d-m,by omega⟩;go_wp2_with fail;refine(pM x _).mono ?_;rintro e w3 ⟨rfl,R⟩;rw[t.o];have g:=Hm (I.o.keep R);clear R q0 q1 q2 q3 q4 q5 E J;have aa:Hl (In w3 B (r+m) y st):=Hm (by have:=g.o.stk.inn;rw[g.o.len]at this;exact this);go_wp2_with fail;refine(Jr _ _ r m _ st aa.o g.o.bd (by omega)).mono ?_;rintro e w4 ⟨rfl,S⟩;have u:=Hm (g.o.keep S);clear S;have ae:=zJ (l:=st.drop r) λq hq=>u.o.bd q (List.mem_of_mem_drop hq);obtain⟨am,an⟩:=ae;by_cases hh:64<raise (st.drop r)
   ·have a:Hl (2=iN es):=Hm (by rw[s.o,p.o,j.o,vg G.o t.o g.o.len hh]);go_wp2;go_ret;exact⟨fV a.o,u.o.below⟩
   have HN:Hl (gX [] es=gX (st.take r++[raise (st.drop r)]) (es.drop (k+1))):=Hm (by rw[p.o,j.o,qP G.o t.o g.o.len (by omega)]);have ab:Hl (r<=st.length):=Hm (by rw[g.o.len];omega);have ao:w.heap.size<=w4.heap.size:=u.o.below.size;go_wp2_with (at_builtin;refine qJ (α:=Int) _ rfl (.tmp 44) (.tmp 46) 38 rfl w.heap.size 3 i0 _ 8 Tryz.underlying38 hi af ag ah rfl (by decide) B y r st (u.o.stk.keep fI) ab.o rfl (raise (st.drop r)) (xq (by omega)) w4.heap.size rfl (iI _ _ _ _ rfl) (by omega) (by simp;omega) ?_;intro A' c' w5 Z T);have HP:=Hm (u.o.push Z T (by omega));clear Z T;go_wp2;go_roundw
   case rel=>exact⟨k+1,r+1,_,A',c',by omega,by omega,by go_num,rfl,HN.o,HP.o⟩
   case measure=>simp[intOf];omega
  ·have j:=Hm (gG D.len (show n<=k by omega));by_cases U:d=1
   ·have a:Hl (0=iN es):=Hm (by rw[s.o,p.o,j.o,gX,if_neg (by rw[f.o.len];omega)]);subst U;go_wp2;go_ret;exact⟨fV a.o,f.o.below⟩
   ·have a:Hl (8=iN es):=Hm (by rw[s.o,p.o,j.o,gX,if_pos (by rw[f.o.len];omega)]);have q1:((d:Int) != 1)=true:=by simp;omega
    clear U;go_wp2;go_ret;exact⟨fV a.o,f.o.below⟩
end Go.Proofs.YtopjjlmfilgngaaGreatDoor
