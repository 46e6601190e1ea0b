/-
  expr.Validate: it returns exprErr. Slices of nodes of the call's own: their cells, appends onto them, slices cut off at a length. No program is in sight but for the shape of a node. schema.Indices, schema.Pick; warehouseref5.Indices, Pick. api.Check as data; the errors of check.Validate; check.usesOther, usesCond, exact.formed, exact.Reduce, check.share. exact.formed, exact.Reduce, check.share. A check and two relations, boxed: what every function of these begins with. (Printed by gen_all.py.) warehouseref8.Raise and Validate.
-/
import Derived.Test.YtopjjlmfilgngaaGreatDoorGah
import Derived.Test.YtopjjlmfilgngaaGreatDoorStk
import Derived.Test.YtopjjlmfilgngaaGreatDoorGad
import Derived.Test.YtopjjlmfilgngaaGreatDoorGag
import Derived.Test.YtopjjlmfilgngaaGreatDoorGae
import Derived.Test.YtopjjlmfilgngaaGreatDoorGaa
import Derived.Test.YtopjjlmfilgngaaGreatDoorGac
namespace Go.Proofs.YtopjjlmfilgngaaGreatDoor
set_option maxHeartbeats 4000000
set_option maxRecDepth 100000
open Go.RowKit
set_option linter.unusedSimpArgs false
set_option linter.unusedVariables false
theorem In.node {w:World}{A:Option Addr}{n c k:Nat}{xs:List Node}(h:In w A n c xs)(hk:k<n): ∃b off x,A=some ⟨b,off,none⟩/\b<w.heap.size/\Hid (xs.drop k=x :: xs.drop (k+1))/\
  w.cell? ⟨b,off+k*6,none⟩=some (.int .i64 x.op)/\w.cell? ⟨b,off+k*6+1,none⟩=some (.int .i64 x.value.kind)/\w.cell? ⟨b,off+k*6+2,none⟩=some (.int .i64 x.value.num)/\w.cell? ⟨b,off+k*6+3,none⟩=some (.string x.value.str)/\
  w.cell? ⟨b,off+k*6+4,none⟩=some (.string x.name)/\w.cell? ⟨b,off+k*6+5,none⟩=some (.int .i64 x.arity)/\x.ok:=by
 obtain ⟨b,off,x,e,hb,hx,cs,⟨rfl,hv⟩,hc⟩:=h.get hk;exact ⟨b,off,x,e,hb,hx,hc 0 (by simp[Node.cells]),hc 1 (by simp[Node.cells]),hc 2 (by simp[Node.cells]),hc 3 (by simp[Node.cells]),hc 4 (by simp[Node.cells]),hc 5 (by simp[Node.cells]),hv⟩
def bB (w:World)(b:Nat)(x:Node):Prop:=w.cell? ⟨b,0,none⟩=some (.int .i64 x.op)/\w.cell? ⟨b,1,none⟩=some (.int .i64 x.value.kind)/\w.cell? ⟨b,2,none⟩=some (.int .i64 x.value.num)/\w.cell? ⟨b,3,none⟩=some (.string x.value.str)/\
  w.cell? ⟨b,4,none⟩=some (.string x.name)/\w.cell? ⟨b,5,none⟩=some (.int .i64 x.arity)
theorem bB.below {w w':World}{b:Nat}{x:Node}(h:bB w b x)(hb:Below w.heap.size w w')(hl:b<w.heap.size):bB w' b x:=
 ⟨ah hb hl h.1,ah hb hl h.2.1,ah hb hl h.2.2.1,ah hb hl h.2.2.2.1,ah hb hl h.2.2.2.2.1,ah hb hl h.2.2.2.2.2⟩
theorem bB.made (w:World)(x:Node):bB (w.alloc (.cells #[.int .i64 x.op,.int .i64 x.value.kind,.int .i64 x.value.num,.string x.value.str,.string x.name,.int .i64 x.arity] 89)) w.heap.size x:=by
 refine ⟨?_,?_,?_,?_,?_,?_⟩ <;> simp[go_sem]
theorem jS {n:Node}(h:shaped n=true):0<=arity n.op n.arity/\arity n.op n.arity<=8:=by
 obtain ⟨op,v,nm,ar⟩:=n;simp only[shaped]at h;unfold arity;by_cases h0:op=0
 ·simp[h0]
 rw[if_neg h0]at h;by_cases h1:op=21
 ·subst h1;simp at h;simp;omega
 rw[if_neg h1]at h;by_cases h2:op=1
 ·simp[h2]
 rw[if_neg h2]at h;by_cases h3:op=20
 ·simp[h3]
 rw[if_neg h3]at h;simp only[Bool.and_eq_true,decide_eq_true_eq]at h;have h4:=h.2.2.2;refine ⟨h4,?_⟩
 (repeat' split) <;> omega
theorem Ij {l:List Int}{j:Nat}{x:Int}{r:List Int}(h:l.drop j=x :: r):raise (l.take (j+1))=max (raise (l.take j)) (1+x):=by
 have hg:=bX h;rw[List.take_add_one,hg.1];simp[raise,List.foldl_append]
theorem zS {l:List Int}(h: ∀x∈l,1<=x/\x<=64):1<=raise l/\raise l<=65:=by
 have key: ∀(l:List Int) (a:Int),(∀x∈l,1<=x/\x<=64)->1<=a/\a<=65->1<=l.foldl (λh x=>max h (1+x)) a/\l.foldl (λh x=>max h (1+x)) a<=65:=by
  intro l
  induction l with
  |nil=>intro a _ h;exact h
  |cons x l ih=>
   intro a hl ha;have hx:=hl x (by simp);have hm:1<=max a (1+x)/\max a (1+x)<=65:=by omega
   exact ih _ (λy hy=>hl y (by simp[hy])) hm
 exact key l 1 h (by omega)
theorem FH:(Tryz.prog.info? 3).map (λi=>(i.zero,i.size,i.bytes))=some (some (.int .i64 0),1,8):=by kernel_rfl
structure Hts (w wr:World) (st:List Int) (d:Nat) (A:Option Addr) (c:Nat):Prop where
 stk:Stk w.heap.size wr 3 A c st
 len:st.length=d
 bd: ∀h∈st,1<=h/\h<=64
 below:Below w.heap.size w wr
theorem Hts.keep {w wr w':World}{st:List Int}{d:Nat}{A:Option Addr}{c:Nat}(h:Hts w wr st d A c)(hb:Below wr.heap.size wr w'):Hts w w' st d A c:=
 ⟨h.stk.keep hb,h.len,h.bd,aa h.below hb⟩
theorem qm {α:Type}[Flat α]{Bs:Nat}{w3:World}{e:TypeId}{st:List α}{r m:Nat}{B:Option Addr}{cb:Nat}(h:Stk Bs w3 e B cb st)(hl:st.length=r+m):
  (r=cb/\m=0)\/(¬cb=r/\ ∃g,B=some ⟨g,0,none⟩/\In w3 (some ⟨g,r*Rep.size α,none⟩) m (cb-r) (st.drop r)):=by
 have h1:=h.cap;rw[hl]at h1;by_cases hc:cb=r
 ·exact .inl ⟨hc.symm,by omega⟩
 ·refine .inr ⟨hc,?_⟩;rcases h.addr with rfl|⟨g,rfl⟩
  ·have:=h.none_ rfl;omega
  ·have h2:=h.from_ (k:=r) (by rw[hl];omega);rw[hl,if_neg hc,show r+m-r=m by omega,Option.map_some,jw,Nat.zero_add]at h2;exact ⟨g,rfl,h2⟩
theorem Hts.push {w w3 w4:World}{st:List Int}{r m:Nat}{B:Option Addr}{cb:Nat}(h:Hts w w3 st (r+m) B cb){o:Obj}{A':Option Addr}{c':Nat}{y:Int}(h4:Stk w.heap.size w4 3 A' c' (st.take r++[y]))(hb:Below w.heap.size (w3.alloc o) w4)(hy:1<=y/\y<=64):
  Hts w w4 (st.take r++[y]) (r+1) A' c':=by
 refine ⟨h4,?_,?_,(aa h.below ae).trans hb⟩
 ·rw[List.length_append,List.length_take,h.len];simp
 ·intro q hq;rcases List.mem_append.1 hq with hq|hq
  ·exact h.bd q (List.mem_of_mem_take hq)
  ·simp at hq;subst hq;exact hy
theorem pq {x:Node}{r m:Nat}(hm:arity x.op x.arity=(m:Int)):kY x (r+m)=r:=by
 rw[kY,hm,Int.toNat_natCast];omega
theorem tC {x:Node}{l:List Node}{st:List Int}{r m:Nat}(hsh:shaped x=true)(hm:arity x.op x.arity=(m:Int))(hl:st.length=r+m)(hr:64<raise (st.drop r)):aS st (x :: l)=2:=by
 rw[aS,if_neg (by rw[hsh,hm,hl];simp;omega),hl,pq hm,if_pos hr]
theorem nW {x:Node}{l:List Node}{st:List Int}{r m:Nat}(hsh:shaped x=true)(hm:arity x.op x.arity=(m:Int))(hl:st.length=r+m)(hr:raise (st.drop r)<=64):aS st (x :: l)=aS (st.take r++[raise (st.drop r)]) l:=by
 rw[aS,if_neg (by rw[hsh,hm,hl];simp;omega),hl,pq hm,if_neg (by omega)]
theorem wD {y:Int}(h:1<=y/\y<=65):eZ y:=by unfold eZ;omega
theorem DW {α:Type}{l:List α}{r j:Nat}{x:α}{q:List α}(h:(l.drop r).drop j=x :: q):x∈l:=by
 have hx:x∈(l.drop r).drop j:=by rw[h];simp
 exact List.mem_of_mem_drop (List.mem_of_mem_drop hx)
theorem EZ (w:World)(A:Option Addr)(n c:Nat)(es:List Node)(hx:In w A n c es)(hw:Words w):
  Calls Tryz.prog 233 #[.slice A n c] w λe w'=>e=.returned (.int .i64 (bK es))/\Below w.heap.size w w':=by
 have h63:=hx.le;have hlen:=hide hx.len;obtain ⟨i0,hi,hz0,hz1,hz2⟩:=info_parts FH;by_cases h1:256<n
 ·have he:Hid (2=bK es):=hide (by simp only[bK];rw[hlen.out,if_pos h1]);go_enter Tryz.func233,Tryz.ntmps233;go_wp2;all_goals (go_ret;exact ⟨ax he.out,Below.refl _ _⟩)
 have jR:Hid (bK es=aS [] es):=hide (by simp only[bK];rw[hlen.out,if_neg h1]);go_enter Tryz.func233,Tryz.ntmps233;go_wp2;go_loopw [3,15] (λv i wr=> ∃(k d:Nat) (st:List Int) (B:Option Addr) (cb:Nat),k<=n/\d<=k/\i=.int .i64 k/\v=.slice B d cb/\aS [] es=aS st (es.drop k)/\Hts w wr st d B cb) (λ_ i _=>n-(intOf i).toNat)
 case atStart=>exact ⟨0,0,[],none,0,Nat.zero_le _,Nat.zero_le _,rfl,rfl,rfl,⟨Stk.nil_ _ _ _,rfl,(λ_ h=>by cases h),Below.refl _ _⟩⟩
 case round=>
  obtain ⟨k,d,st,B,cb,hk,hdk,rfl,rfl,heq,hst⟩:=hrel;have HE:=hide heq;have HST:=hide hst;clear heq hst;by_cases hlt:k<n
  ·obtain ⟨b,off,x,rfl,hB,HX,f0,f1,f2,f3,f4,f5,hok⟩:=(hx.below HST.out.below).node hlt;have NA:=hide (bB.made wr x);go_wp2_with fail;refine (Ir x hok _ (hw.below (aa HST.out.below ae))).mono ?_;rintro e w1 ⟨rfl,hb1⟩;obtain ⟨g0,g1,g2,g3,g4,g5⟩:=NA.out.below hb1 (by simp);have Uw:=hide (NA.out.below hb1 (by simp));have Mr:=hide ((HST.out.keep ae).keep hb1);have z1:wr.heap.size<w1.heap.size:=by have:=hb1.size;simp at this;omega
   clear hb1 f0 f1 f2 f3 f4 f5;cases hsh:shaped x
   ·have he:Hid (8=bK es):=hide (by rw[jR.out,HE.out,HX.out,aS,if_pos (.inl hsh)]);go_wp2;go_ret;exact ⟨ax he.out,Mr.out.below⟩
   obtain ⟨m,hm⟩: ∃m:Nat,arity x.op x.arity=(m:Int):=⟨(arity x.op x.arity).toNat,by have:=jS hsh;omega⟩;have QU:m<=8:=by have:=(jS hsh).2;omega
   have HM:=hide hm;have xW:=hide hsh;clear hsh hm;go_wp2_with fail;refine (oH x _).mono ?_;rintro e w2 ⟨rfl,hb2⟩;rw[HM.out];obtain ⟨q0,q1,q2,q3,q4,q5⟩:=Uw.out.below hb2 z1;have NA2:=hide (Uw.out.below hb2 z1);have cK:=hide (Mr.out.keep hb2);have z2:wr.heap.size<w2.heap.size:=by have:=hb2.size;omega
   clear hb2 g0 g1 g2 g3 g4 g5;by_cases hmd:d<m
   ·have he:Hid (8=bK es):=hide (by rw[jR.out,HE.out,HX.out,aS,if_pos (.inr (by rw[HM.out,HST.out.len];omega))]);go_wp2;go_ret;exact ⟨ax he.out,cK.out.below⟩
   obtain ⟨r,rfl⟩: ∃r,d=r+m:=⟨d-m,by omega⟩;go_wp2_with fail;refine (oH x _).mono ?_;rintro e w3 ⟨rfl,hb3⟩;rw[HM.out];have lw:=hide (cK.out.keep hb3);clear hb3 q0 q1 q2 q3 q4 q5 NA Uw NA2;have hcap:=lw.out.stk.cap;rw[lw.out.len]at hcap;have hbd: ∀(j:Nat) (y:Int) (q:List Int),(st.drop r).drop j=y :: q->1<=y/\y<=64:=λ_ _ _ h=>HST.out.bd _ (DW h);have hrb: ∀j,1<=raise ((st.drop r).take j)/\raise ((st.drop r).take j)<=65:=λj=>zS λq hq=>HST.out.bd q (List.mem_of_mem_drop (List.mem_of_mem_take hq));have Ex:=hide hbd;have Sq:=hide hrb;clear hbd hrb;rcases qm lw.out.stk lw.out.len with ⟨rfl,rfl⟩|⟨hc,g,rfl,hin⟩
   ·go_wp2
    go_loop [7,38] (λh i=>i=.int .i64 0/\h=.int .i64 1) (λ_ i=>0)
    case atStart=>exact ⟨rfl,rfl⟩
    case round=>
     obtain ⟨rfl,rfl⟩:=hrel;have HR1:Hid (raise (st.drop r)=1):=hide (by rw[List.drop_eq_nil_of_le (by rw[lw.out.len];omega)];rfl);have HN:Hid (aS [] es=aS (st.take r++[1]) (es.drop (k+1))):=hide (by rw[HE.out,HX.out,nW xW.out HM.out lw.out.len (by rw[HR1.out];omega),HR1.out]);have fJ:Hid (r<=st.length):=hide (by rw[lw.out.len];omega);have WN:w.heap.size<=w3.heap.size:=lw.out.below.size;go_wp2_with (at_builtin;refine nP (α:=Int) _ rfl (.tmp 51) (.tmp 53) 38 rfl w.heap.size 3 i0 _ 8 Tryz.underlying38 hi hz0 hz1 hz2 rfl (by decide) B r r st (lw.out.stk.keep ae) fJ.out rfl 1 (wD (by omega)) w3.heap.size rfl (bH _ _ _ _ rfl) (by omega) (by simp;omega) ?_;intro A' c' w4 NM hb4);have HP:=hide (lw.out.push NM hb4 (by omega));clear NM hb4;go_wp2;go_roundw
     case rel=>exact ⟨k+1,r+1,_,A',c',by omega,by omega,by go_num,rfl,HN.out,HP.out⟩
     case measure=>simp[intOf];omega
   ·rw[show r*Rep.size Int=r from Nat.mul_one r]at hin;go_wp2
    go_loop [7,38] (λh i=> ∃j:Nat,j<=m/\i=.int .i64 j/\h=.int .i64 (raise ((st.drop r).take j))) (λ_ i=>m-(intOf i).toNat)
    case atStart=>exact ⟨0,Nat.zero_le _,rfl,rfl⟩
    case round=>
     obtain ⟨j,hj,rfl,rfl⟩:=hrel;have hr1:=(Sq.out j).1;have hr2:=(Sq.out j).2;by_cases hjm:j<m
     ·obtain ⟨b',off',y,e,hB',HY,y0,y1⟩:=hin.int hjm;injection e with e;injection e with e_1 e_2;subst e_1 e_2;have hy1:=(Ex.out _ _ _ HY.out).1;have hy2:=(Ex.out _ _ _ HY.out).2;have HR:=hide (Ij HY.out);go_wp2
      go_round
      case rel=>exact ⟨j+1,by omega,by go_num,by rw[HR.out]⟩
      case measure=>simp[intOf];omega
     ·obtain rfl:j=m:=by omega
      have Vi:Hid ((st.drop r).take j=st.drop r):=hide (List.take_of_length_le (by rw[List.length_drop,lw.out.len];omega));rw[Vi.out]at hr1 hr2⊢;by_cases hh:64<raise (st.drop r)
      ·have he:Hid (2=bK es):=hide (by rw[jR.out,HE.out,HX.out,tC xW.out HM.out lw.out.len hh]);go_wp2;go_ret;exact ⟨ax he.out,lw.out.below⟩
      have HN:Hid (aS [] es=aS (st.take r++[raise (st.drop r)]) (es.drop (k+1))):=hide (by rw[HE.out,HX.out,nW xW.out HM.out lw.out.len (by omega)]);have fJ:Hid (r<=st.length):=hide (by rw[lw.out.len];omega);have WN:w.heap.size<=w3.heap.size:=lw.out.below.size;go_wp2_with (at_builtin;refine nP (α:=Int) _ rfl (.tmp 51) (.tmp 53) 38 rfl w.heap.size 3 i0 _ 8 Tryz.underlying38 hi hz0 hz1 hz2 rfl (by decide) (some ⟨g,0,none⟩) cb r st (lw.out.stk.keep ae) fJ.out rfl (raise (st.drop r)) (wD (by omega)) w3.heap.size rfl (bH _ _ _ _ rfl) (by omega) (by simp;omega) ?_;intro A' c' w4 NM hb4);have HP:=hide (lw.out.push NM hb4 (by omega));clear NM hb4;go_wp2;go_roundw
      case rel=>exact ⟨k+1,r+1,_,A',c',by omega,by omega,by go_num,rfl,HN.out,HP.out⟩
      case measure=>simp[intOf];omega
  ·have HX:=hide (aI hx.len (show n<=k by omega));by_cases hd1:d=1
   ·have he:Hid (0=bK es):=hide (by rw[jR.out,HE.out,HX.out,aS,if_neg (by rw[HST.out.len];omega)]);subst hd1;go_wp2;go_ret;exact ⟨ax he.out,HST.out.below⟩
   ·have he:Hid (8=bK es):=hide (by rw[jR.out,HE.out,HX.out,aS,if_pos (by rw[HST.out.len];omega)]);have q1:((d:Int) != 1)=true:=by simp;omega
    clear hd1;go_wp2;go_ret;exact ⟨ax he.out,HST.out.below⟩
instance:Flat Node where
 cs v:=v.cells
 ok v:=v.ok
 rd_mk _ _ _ h:=⟨rfl,h⟩
 cs_len _:=rfl
 cs_one v u hu:=by simp[Node.cells]at hu;rcases hu with rfl|rfl|rfl|rfl|rfl|rfl <;> rfl
 pos:=by decide
instance:Flat Col where
 cs v:=v.cells
 ok v:=v.ok
 rd_mk _ _ _ h:=⟨rfl,h⟩
 cs_len _:=rfl
 cs_one v u hu:=by simp[Col.cells]at hu;rcases hu with rfl|rfl|rfl <;> rfl
 pos:=by decide
instance:Flat ByteArray where
 cs v:=[.string v]
 ok v:=Str v
 rd_mk _ _ _ h:=⟨rfl,h⟩
 cs_len _:=rfl
 cs_one v u hu:=by simp at hu;subst hu;rfl
 pos:=by decide
class Plain (α:Type) extends Flat α where
 inv: ∀{w:World} {S:Nat->Prop} {cs:List Value} {a:α},Rep.rd w S cs a->cs=Flat.cs a/\Flat.ok a
instance:Plain Node:=⟨λh=>h⟩
instance:Plain Col:=⟨λh=>h⟩
instance:Plain Val:=⟨λh=>h⟩
instance:Plain ByteArray:=⟨λh=>h⟩
theorem Sl.take {β:Type}[Rep β]{w:World}{S:Nat->Prop}{A:Option Addr}{n c k:Nat}{xs:List β}(h:Sl w S A n c xs)(hk:k<=n):Sl w S A k c (xs.take k):=by
 refine ⟨by rw[List.length_take,h.1];omega,by have:=h.2.1;omega,h.2.2.1,h.2.2.2.1,λhk0=>?_⟩;obtain ⟨b,off,e,hb,hi⟩:=h.2.2.2.2 (by omega);refine ⟨b,off,e,hb,λi hi'=>?_⟩;have hl:i<xs.length:=by rw[List.length_take]at hi';omega
 have:=hi i hl;rw[List.getElem_take];exact this
theorem In.take {β:Type}[Rep β]{w:World}{A:Option Addr}{n c k:Nat}{xs:List β}(h:In w A n c xs)(hk:k<=n):In w A k c (xs.take k):=Sl.take h hk
theorem Stk.made {α:Type}[Flat α]{w:World}{B:Nat}{e:TypeId}{xs:List α}{arr:Array Value}(ha:arr.toList=xs.flatMap Flat.cs)(hok: ∀x∈xs,Flat.ok x)(hB:B<=w.heap.size)(hx:xs.length<=4096):
  Stk B (w.alloc (.cells arr e)) e (some ⟨w.heap.size,0,none⟩) xs.length xs:=by
 have hl:arr.size=xs.length*Rep.size α:=by rw[<-Array.length_toList,ha,lD]
 refine ⟨⟨by rw[lD],.inr ⟨w.heap.size,xs.length,arr,rfl,hB,heap_alloc_new w _,Nat.le_refl _,by simp only[maxLen];omega,hl,?_⟩⟩,hok⟩;rw[ha,<-lD,List.take_length]
theorem Stk.at_ {α:Type}[Flat α]{w:World}{B g:Nat}{e:TypeId}{xs:List α}{arr:Array Value}(h:w.heap[g]?=some (.cells arr e (0,0)))(ha:arr.toList=xs.flatMap Flat.cs)(hok: ∀x∈xs,Flat.ok x)(hB:B<=g){n:Nat}(hn:xs.length=n)(hx:n<=4096):
  Stk B w e (some ⟨g,0,none⟩) n xs:=by
 subst hn;have hl:arr.size=xs.length*Rep.size α:=by rw[<-Array.length_toList,ha,lD]
 refine ⟨⟨by rw[lD],.inr ⟨g,xs.length,arr,rfl,hB,h,Nat.le_refl _,by simp only[maxLen];omega,hl,?_⟩⟩,hok⟩;rw[ha,<-lD,List.take_length]
section
variable {α:Type}[Plain α]{P:Program}{w:World}
end
theorem yP:Elem Tryz.prog 38 3 1 8:=ni (.int .i64 0) Tryz.underlying38 (by kernel_rfl) rfl (by decide)
theorem uX (s:ByteArray): ∀(l:List Col) (k:Nat), -1<=aR s k l/\aR s k l<(k:Int)+l.length
 | [],k=>by rw[aR];simp;omega
 |x :: l,k=>by
  rw[aR]
  split
  ·simp;omega
  ·have:=uX s l (k+1);rw[List.length_cons];omega
theorem zt (cols:List Col)(s:ByteArray): -1<=index cols s/\index cols s<cols.length:=by
 have:=uX s cols 0;rw[index];omega
def wE (cols:List Col)(names:List ByteArray)(i:Nat)(s:ByteArray):Int:=if index cols s<0 then 5 else if jA (names.take i) s then 6 else 0
def iG (cols:List Col)(names:List ByteArray):Int:=ai (wE cols names) 0 names
def bi (cols:List Col)(names:List ByteArray):Int×List Int:=if iG cols names≠0 then (iG cols names,[]) else (0,names.map (index cols))
theorem rD (w:World)(A:Option Addr)(n c:Nat)(cols:List Col)(hx:In w A n c cols)(A2:Option Addr)(n2 c2:Nat)(names:List ByteArray)(hy:In w A2 n2 c2 names)(hn:n2<=1048576)(hn1:n<=1048576):
  Calls Tryz.prog 108 #[.slice A n c,.slice A2 n2 c2] w
   λe w'=>(∃v,e=.returned (.tuple #[v,.int .i64 (bi cols names).1])/\OL 3 w.heap.size (λ_=>False) [] w' v (bi cols names).2)/\Below w.heap.size w w':=by
 have HD:=hide (show bi cols names=if iG cols names≠0 then (iG cols names,[]) else (0,names.map (index cols)) from rfl);obtain ⟨R,hR⟩: ∃R,bi cols names=R:=⟨_,rfl⟩;rw[hR]at HD;rw[hR];clear hR;have HX:=hide hx;have HY:=hide hy;have h63:=hy.le;have h64:=hx.le;clear hx hy;go_enter Tryz.func108,Tryz.ntmps108;go_wp2;go_loopw [6,12] (λo i wr=> ∃(k:Nat) (zs:List Int),k<=n2/\i=.int .i64 k/\zs=(names.take k).map (index cols)/\zs.length<=k/\iG cols names=ai (wE cols names) k (names.drop k)/\OL 3 w.heap.size (λ_=>False) [] wr o zs/\Below w.heap.size w wr) (λ_ i _=>n2-(RowKit.intOf i).toNat)
 case atStart=>exact ⟨0,[],Nat.zero_le _,rfl,by simp,by simp,rfl,OL.nil (Nat.le_refl _),Below.refl _ _⟩
 case round=>
  obtain ⟨k,zs,hk,rfl,hzs,hzl,heq,ho,hb⟩:=hrel;have HZ:=hide hzs;have HE:=hide heq;have HO:=hide ho;have HB:=hide hb;clear hzs heq ho hb;by_cases hlt:k<n2
  ·obtain ⟨b,off,s,rfl,hBb,HS,e0,e1⟩:=(HY.out.below HB.out).str hlt;have k0:(0:Int)<=(k:Int):=by omega
   have k1:(k:Int)<(n2:Int):=by omega
   have kc:(k:Int)<=(c2:Int):=by have:=HY.out.cap;omega
   have hcap:=HY.out.cap;obtain ⟨r,hr⟩: ∃r,index cols s=r:=⟨_,rfl⟩;have hbd:=zt cols s;rw[hr,HX.out.len]at hbd;have Mo:=hide hr;clear hr;go_wp2_with fail;refine (wF _ A n c cols (by exact HX.out.below HB.out) s).mono ?_;rintro e w1 ⟨rfl,hb1⟩;rw[Mo.out];have PM:=hide (HO.out.below hb1);have HB1:=hide (aa HB.out hb1);have HT:=hide ((HY.out.below HB1.out).take hk);clear hb1 e0;by_cases hneg:r<0
   ·have he:Hid (R=(5,[])):=hide (by
     have h1:iG cols names=5:=by rw[HE.out,HS.out];exact aK (by rw[wE,Mo.out,if_pos hneg]) (by omega)
     rw[HD.out,h1,if_pos (by omega)])
    obtain rfl:=he.out;go_wp2;all_goals (try (exfalso;go_light;simp_all;done));go_ret2;exact ⟨⟨_,rfl,OL.nil HB1.out.size⟩,HB1.out⟩
   ·have Mm:=hide hneg;go_wp2_with fail;refine (ze _ _ k c2 (names.take k) (by exact HT.out) s).mono ?_;rintro e w2 ⟨rfl,rfl⟩;cases hh:jA (names.take k) s
    ·have HC:Hid (iG cols names=ai (wE cols names) (k+1) (names.drop (k+1))):=hide (by
      rw[HE.out,HS.out];exact aY (by rw[wE,Mo.out,if_neg (by have:=Mm.out;omega),hh];rfl))
     have hz2:Hid ((names.take (k+1)).map (index cols)=zs++[r]):=hide (by rw[bg HS.out,List.map_append,HZ.out,List.map_cons,Mo.out];rfl);have hzq:zs.length+1<=maxLen:=by simp only[maxLen];omega
     have TL:(zs.length+1)*8<=140737488355328:=by omega
     go_wp2_with (at_builtin;refine bF _ rfl _ _ _ rfl yP (by simp) _ _ rfl PM.out rfl rfl r ⟨rfl,⟨(by omega),(by omega)⟩⟩ hzq TL ?_;intro v1 w9 oQ fK qR kJ);have qG:=hide oQ;have uB:=hide (HB1.out.trans fK);clear oQ fK qR kJ;go_wp2;go_roundw
     case rel=>exact ⟨k+1,zs++[r],by omega,by go_num,hz2.out.symm,by simp;omega,HC.out,qG.out,uB.out⟩
     case measure=>simp[RowKit.intOf];omega
    ·have he:Hid (R=(6,[])):=hide (by
      have h1:iG cols names=6:=by rw[HE.out,HS.out];exact aK (by rw[wE,Mo.out,if_neg (by have:=Mm.out;omega),hh];rfl) (by omega)
      rw[HD.out,h1,if_pos (by omega)])
     obtain rfl:=he.out;go_wp2;all_goals (try (exfalso;go_light;simp_all;done));go_ret2;exact ⟨⟨_,rfl,OL.nil HB1.out.size⟩,HB1.out⟩
  ·have he:Hid (R=(0,zs)):=hide (by
    have h1:iG cols names=0:=by rw[HE.out,aI HY.out.len (by omega),ai]
    rw[HD.out,h1,if_neg (by omega),HZ.out,List.take_of_length_le (by have:=HY.out.len;omega)])
   obtain rfl:=he.out;go_wp2;all_goals (try (exfalso;go_light;simp_all;done));go_ret2;exact ⟨⟨_,rfl,HO.out⟩,HB.out⟩
theorem ja (w:World)(A:Option Addr)(n c:Nat)(cols:List Col)(hx:In w A n c cols)(A2:Option Addr)(n2 c2:Nat)(names:List ByteArray)(hy:In w A2 n2 c2 names)(hn:n2<=1048576)(hn1:n<=1048576):
  Calls Tryz.prog 93 #[.slice A n c,.slice A2 n2 c2] w
   λe w'=>(∃v,e=.returned (.tuple #[v,.int .i64 (bi cols names).1])/\OL 3 w.heap.size (λ_=>False) [] w' v (bi cols names).2)/\Below w.heap.size w w':=by
 have HD:=hide (show bi cols names=if iG cols names≠0 then (iG cols names,[]) else (0,names.map (index cols)) from rfl);obtain ⟨R,hR⟩: ∃R,bi cols names=R:=⟨_,rfl⟩;rw[hR]at HD;rw[hR];clear hR;have HX:=hide hx;have HY:=hide hy;have h63:=hy.le;have h64:=hx.le;clear hx hy;go_enter Tryz.func93,Tryz.ntmps93;go_wp2;go_loopw [6,7] (λo i wr=> ∃(k:Nat) (zs:List Int),k<=n2/\i=.int .i64 k/\zs=(names.take k).map (index cols)/\zs.length<=k/\iG cols names=ai (wE cols names) k (names.drop k)/\OL 3 w.heap.size (λ_=>False) [] wr o zs/\Below w.heap.size w wr) (λ_ i _=>n2-(RowKit.intOf i).toNat)
 case atStart=>exact ⟨0,[],Nat.zero_le _,rfl,by simp,by simp,rfl,OL.nil (Nat.le_refl _),Below.refl _ _⟩
 case round=>
  obtain ⟨k,zs,hk,rfl,hzs,hzl,heq,ho,hb⟩:=hrel;have HZ:=hide hzs;have HE:=hide heq;have HO:=hide ho;have HB:=hide hb;clear hzs heq ho hb;by_cases hlt:k<n2
  ·obtain ⟨b,off,s,rfl,hBb,HS,e0,e1⟩:=(HY.out.below HB.out).str hlt;have k0:(0:Int)<=(k:Int):=by omega
   have k1:(k:Int)<(n2:Int):=by omega
   have kc:(k:Int)<=(c2:Int):=by have:=HY.out.cap;omega
   have hcap:=HY.out.cap;obtain ⟨r,hr⟩: ∃r,index cols s=r:=⟨_,rfl⟩;have hbd:=zt cols s;rw[hr,HX.out.len]at hbd;have Mo:=hide hr;clear hr;have HT:=hide ((HY.out.below HB.out).take hk);go_wp2_with fail;refine (oU _ A n c cols (by exact HX.out.below HB.out) s).mono ?_;rintro e w1 ⟨rfl,rfl⟩;rw[Mo.out];by_cases hneg:r<0
   ·have he:Hid (R=(5,[])):=hide (by
     have h1:iG cols names=5:=by rw[HE.out,HS.out];exact aK (by rw[wE,Mo.out,if_pos hneg]) (by omega)
     rw[HD.out,h1,if_pos (by omega)])
    obtain rfl:=he.out;go_wp2;all_goals (try (exfalso;go_light;simp_all;done));go_ret2;exact ⟨⟨_,rfl,OL.nil HB.out.size⟩,HB.out⟩
   ·have Mm:=hide hneg;go_wp2;go_region_held3 (λV=>V.cell? ⟨b,off+k,none⟩=some (.string s)) (exact e0) (first|(go_at_call 133;refine (Dw _ _ k c2 (names.take k) (by exact HT.out.below (Below.refl _ _).drew) s).mono ?_;rintro e w2 ⟨rfl,rfl⟩));have HOQ:=hide (HO.out.below (Below.refl _ _).drew);have Yl:=hide (HB.out.drew);cases hh:jA (names.take k) s
    ·have HC:Hid (iG cols names=ai (wE cols names) (k+1) (names.drop (k+1))):=hide (by
      rw[HE.out,HS.out];exact aY (by rw[wE,Mo.out,if_neg (by have:=Mm.out;omega),hh];rfl))
     have hz2:Hid ((names.take (k+1)).map (index cols)=zs++[r]):=hide (by rw[bg HS.out,List.map_append,HZ.out,List.map_cons,Mo.out];rfl);have hzq:zs.length+1<=maxLen:=by simp only[maxLen];omega
     have TL:(zs.length+1)*8<=140737488355328:=by omega
     go_wp2_with (at_builtin;refine bF _ rfl _ _ _ rfl yP (by simp) _ _ rfl HOQ.out rfl rfl r ⟨rfl,⟨(by omega),(by omega)⟩⟩ hzq TL ?_;intro v1 w9 oQ fK qR kJ);have qG:=hide oQ;have uB:=hide (Yl.out.trans fK);clear oQ fK qR kJ;go_wp2;go_roundw
     case rel=>exact ⟨k+1,zs++[r],by omega,by go_num,hz2.out.symm,by simp;omega,HC.out,qG.out,uB.out⟩
     case measure=>simp[RowKit.intOf];omega
    ·have he:Hid (R=(6,[])):=hide (by
      have h1:iG cols names=6:=by rw[HE.out,HS.out];exact aK (by rw[wE,Mo.out,if_neg (by have:=Mm.out;omega),hh];rfl) (by omega)
      rw[HD.out,h1,if_pos (by omega)])
     obtain rfl:=he.out;go_wp2;all_goals (try (exfalso;go_light;simp_all;done));go_ret2;exact ⟨⟨_,rfl,OL.nil Yl.out.size⟩,Yl.out⟩
  ·have he:Hid (R=(0,zs)):=hide (by
    have h1:iG cols names=0:=by rw[HE.out,aI HY.out.len (by omega),ai]
    rw[HD.out,h1,if_neg (by omega),HZ.out,List.take_of_length_le (by have:=HY.out.len;omega)])
   obtain rfl:=he.out;go_wp2;all_goals (try (exfalso;go_light;simp_all;done));go_ret2;exact ⟨⟨_,rfl,HO.out⟩,HB.out⟩
structure Chk where
 name:ByteArray
 table:ByteArray
 kind:Int
 cols:List ByteArray
 other:ByteArray
 ocols:List ByteArray
 low:Int
 high:Int
 cond:List Node
 ln:Int
 ld:Int
 mn:Int
 md:Int
 policy:Int
instance:Inhabited Chk:=⟨⟨⟨#[]⟩,⟨#[]⟩,0,[],⟨#[]⟩,[],0,0,[],0,0,0,0,0⟩⟩
instance:Rep Chk where
 size:=14
 rd w S cs x:= ∃A n c A' n' c' aX n'' c'',cs=[.string x.name,.string x.table,.int .i64 x.kind,.slice A n c,.string x.other,.slice A' n' c',.int .i64 x.low,.int .i64 x.high,.slice aX n'' c'',.int .i64 x.ln,.int .i64 x.ld,.int .i64 x.mn,.int .i64 x.md,.int .i64 x.policy]/\
  Sl w S A n c x.cols/\Sl w S A' n' c' x.ocols/\Sl w S aX n'' c'' x.cond/\(Str x.name/\Str x.table/\eZ x.kind/\Str x.other/\eZ x.low/\eZ x.high/\eZ x.ln/\eZ x.ld/\eZ x.mn/\eZ x.md/\eZ x.policy)
 len h:=by obtain ⟨_,_,_,_,_,_,_,_,_,rfl,_⟩:=h;rfl
 keep hs h:=by obtain ⟨A,n,c,A',n',c',aX,n'',c'',rfl,h1,h2,h3,h4⟩:=h;exact ⟨A,n,c,A',n',c',aX,n'',c'',rfl,h1.keep hs,h2.keep hs,h3.keep hs,h4⟩
 mono hs h:=by obtain ⟨A,n,c,A',n',c',aX,n'',c'',rfl,h1,h2,h3,h4⟩:=h;exact ⟨A,n,c,A',n',c',aX,n'',c'',rfl,h1.mono hs,h2.mono hs,h3.mono hs,h4⟩
def gH (k:Int):Bool:=k==3 || k==6
def jg (k:Int):Bool:=k==4 || k==5
def dh (n d:Int):Bool:=decide (0<=n)&&decide (n<=1073741824)&&(decide (1<=d)&&decide (d<=1073741824))
def jK (c:Chk)(cols ocols:List Col):Int:=
 if (bi cols c.cols).1≠0 then (bi cols c.cols).1
 else if (bi cols c.cols).2.length=0\/((c.kind=2\/c.kind=6)/\1<(bi cols c.cols).2.length) then 8
 else if (c.kind=2\/c.kind=6)/\(cols.getD ((bi cols c.cols).2.getD 0 0).toNat default).kind≠2 then 7
 else if gH c.kind=false then 0
 else if aC ocols≠0 then aC ocols
 else if (bi ocols c.ocols).1≠0 then (bi ocols c.ocols).1
 else if (bi cols c.cols).2.length≠(bi ocols c.ocols).2.length then 8
 else if (List.zip (bi cols c.cols).2 (bi ocols c.ocols).2).any (λp=>(cols.getD p.1.toNat default).kind != (ocols.getD p.2.toNat default).kind) then 7 else 0
def gu (c:Chk)(cols:List Col)(zs:List Zone):Int:=
 if (bU c.cond cols zs).1≠0 then (bU c.cond cols zs).1 else if (bU c.cond cols zs).2.kind≠1/\(bU c.cond cols zs).2.kind≠0 then 7 else 0
def aN (c:Chk)(cols ocols:List Col)(zs:List Zone):Int:=
 if c.kind<0\/6<c.kind\/c.policy<0\/2<c.policy then 1
 else if c.policy=0/\(c.kind=5\/c.kind=6) then 7
 else if aC cols≠0 then aC cols
 else if jg c.kind=false then jK c cols ocols
 else if gu c cols zs≠0 then gu c cols zs
 else if c.kind=5/\(dh c.ln c.ld&&dh c.mn c.md)=false then 1 else 0
theorem sK (w:World)(k:Int):Calls Tryz.prog 115 #[.int .i64 k] w λe w'=>e=.returned (.bool (gH k))/\Below w.heap.size w w':=by
 rw[gH];cases h3:(k==3)
 ·go_enter Tryz.func115,Tryz.ntmps115;go_wp2;go_ret;exact ⟨ay (by simp),Below.refl _ _⟩
 ·go_enter Tryz.func115,Tryz.ntmps115;go_wp2;go_ret;exact ⟨ay (by simp),Below.refl _ _⟩
theorem Lj (w:World)(k:Int):Calls Tryz.prog 144 #[.int .i64 k] w λe w'=>e=.returned (.bool (jg k))/\Below w.heap.size w w':=by
 rw[jg];cases h3:(k==4)
 ·go_enter Tryz.func144,Tryz.ntmps144;go_wp2;go_ret;exact ⟨ay (by simp),Below.refl _ _⟩
 ·go_enter Tryz.func144,Tryz.ntmps144;go_wp2;go_ret;exact ⟨ay (by simp),Below.refl _ _⟩
def lZ (n d:Int):Bool:=bO n&&(decide (1<=d)&&decide (d<=1073741824))
theorem E9 (w:World)(n d:Int):Calls Tryz.prog 213 #[.agg #[.int .i64 n,.int .i64 d]] w λe w'=>e=.returned (.bool (lZ n d))/\Below w.heap.size w w':=by
 rw[lZ];cases hs:bO n
 ·go_enter Tryz.func213,Tryz.ntmps213;go_wp2_with fail;refine (sG n _).mono ?_;rintro e w2 ⟨rfl,rfl⟩;rw[hs];go_wp2;go_ret;exact ⟨ay (by simp),ae⟩
 ·by_cases h1:1<=d
  ·by_cases h2:d<=1073741824
   ·go_enter Tryz.func213,Tryz.ntmps213;go_wp2_with fail;refine (sG n _).mono ?_;rintro e w2 ⟨rfl,rfl⟩;rw[hs];go_wp2;go_ret;exact ⟨ay (by simp[h1,h2]),ae⟩
   ·go_enter Tryz.func213,Tryz.ntmps213;go_wp2_with fail;refine (sG n _).mono ?_;rintro e w2 ⟨rfl,rfl⟩;rw[hs];go_wp2;go_ret;exact ⟨ay (by simp[h1,h2]),ae⟩
  ·go_enter Tryz.func213,Tryz.ntmps213;go_wp2_with fail;refine (sG n _).mono ?_;rintro e w2 ⟨rfl,rfl⟩;rw[hs];go_wp2;go_ret;exact ⟨ay (by simp;omega),ae⟩
theorem Ha {n d:Int}(h:lZ n d=true):(-1073741824<=n/\n<=1073741824)/\1<=d/\d<=1073741824:=by
 rw[lZ,bO]at h;simp at h;exact ⟨h.1,h.2⟩
theorem Il (w:World)(n d:Int):Calls Tryz.prog 186 #[.agg #[.int .i64 n,.int .i64 d]] w
  λe w'=>(∃a b:Int,e=.returned (.tuple #[.agg #[.int .i64 a,.int .i64 b],.bool (lZ n d)]))/\Below w.heap.size w w':=by
 obtain ⟨F,hF⟩: ∃F,lZ n d=F:=⟨_,rfl⟩;have HF:=hide hF;rw[hF];clear hF;go_enter Tryz.func186,Tryz.ntmps186;go_wp2_with fail;refine (E9 _ n d).mono ?_;rintro e w1 ⟨rfl,hb1⟩;rw[HF.out];have hbb:=aa below_alloc2 hb1;have g0:=ah (b:=w.heap.size) (o:=0) (v:=.int .i64 n) hb1 (by simp;omega) (by simp[go_sem]);have g1:=ah (b:=w.heap.size) (o:=1) (v:=.int .i64 d) hb1 (by simp;omega) (by simp[go_sem]);have r0:=ah (b:=w.heap.size+1) (o:=0) (v:=.int .i64 0) hb1 (by simp) (by simp[go_sem]);have r1:=ah (b:=w.heap.size+1) (o:=1) (v:=.int .i64 0) hb1 (by simp) (by simp[go_sem]);have t1:dP w1 (w.heap.size+1) 46 2:=by
  have h:=(dP.made (w.alloc (.cells #[.int .i64 n,.int .i64 d] 46)) #[.int .i64 0,.int .i64 0] 46 2 rfl).below hb1
  rwa [World.size_alloc]at h
 have z0:=t1.frozen 0;have z1:=t1.frozen 1;have HB1:=hide hbb;clear hb1 hbb t1;cases F
 ·go_wp2;refine bodyPost_ret (v:=.tuple #[.agg #[.int .i64 0,.int .i64 0],.bool false]) (by simp[results,Tryz.results186,go_sem,r0,r1]) rfl ⟨⟨0,0,rfl⟩,(HB1.out.setCell (Nat.le_succ _) _).setCell (Nat.le_succ _) _⟩
 ·obtain ⟨⟨n1,n2⟩,d1,d2⟩:=Ha HF.out;have hng:IntKind.i64.wrap (-n)= -n:=IntWalk.i64_in _ (by omega);go_wp2;go_region_held3 (λV=>V.cell? ⟨w.heap.size,0,none⟩=some (.int .i64 n)/\V.cell? ⟨w.heap.size,1,none⟩=some (.int .i64 d)) (first|exact ⟨g0,g1⟩|go_keep) (fail);have ha0:0<=max n (-n):=by omega
  have ha1:max n (-n)<=1073741824:=by omega
  generalize max n (-n)=a0 at*;go_wp2;go_loopw [4,5] (λav bv wr=> ∃(a b:Int) (q:Nat),av=.int .i64 a/\bv=.int .i64 b/\0<=a/\0<=b/\a<=1073741824/\b<=1073741824/\(0<a\/0<b)/\wr=w1.drewN q) (λ_ bv _=>(RowKit.intOf bv).toNat)
  case atStart=>exact ⟨a0,d,1,rfl,rfl,ha0,by omega,ha1,d2,.inr (by omega),rfl⟩
  case round=>
   obtain ⟨a,b,q,rfl,rfl,a1,b1,a2,b2,hab,rfl⟩:=hrel;by_cases hb0:b=0
   ·subst hb0;have hap:¬a=0:=by omega
    have hq:(a==0)=false:=by simpa using hap
    have e0:(w1.drewN q).cell? ⟨w.heap.size,0,none⟩=some (.int .i64 n):=g0;have e1:(w1.drewN q).cell? ⟨w.heap.size,1,none⟩=some (.int .i64 d):=g1;have s0:(w1.drewN q).cell? ⟨w.heap.size+1,0,none⟩=some (.int .i64 0):=r0;have s1:(w1.drewN q).cell? ⟨w.heap.size+1,1,none⟩=some (.int .i64 0):=r1;have y0:(w1.drewN q).frozen? ⟨w.heap.size+1,0,none⟩=false:=z0;have y1:(w1.drewN q).frozen? ⟨w.heap.size+1,1,none⟩=false:=z1;go_wp2;have hb1: ∀m:Int, -1073741824<=m->m<=1073741824-> -1073741824<=m.tdiv a/\m.tdiv a<=1073741824:=λm m1 m2=>by
     have h1:(m.tdiv a).natAbs<=m.natAbs:=by rw[Int.natAbs_tdiv];exact Nat.div_le_self _ _
     omega
    obtain ⟨q1,q2⟩:=hb1 n n1 n2;obtain ⟨q3,q4⟩:=hb1 d (by omega) d2;have k1:IntKind.i64.wrap (n.tdiv a)=n.tdiv a:=IntWalk.i64_in _ (by omega);have k2:IntKind.i64.wrap (d.tdiv a)=d.tdiv a:=IntWalk.i64_in _ (by omega);go_region_held3 (λV=>V.cell? ⟨w.heap.size,0,none⟩=some (.int .i64 n)/\V.cell? ⟨w.heap.size,1,none⟩=some (.int .i64 d)) (first|exact ⟨e0,e1⟩|exact ⟨ag (ag e0 (.inl (by omega))) (.inl (by omega)),ag (ag e1 (.inl (by omega))) (.inl (by omega))⟩|go_keep) (fail);have c0:=ag (b':=w.heap.size+1) (o':=1) (v:=.int .i64 (d.tdiv a)) (cO (v:=.int .i64 (n.tdiv a)) (show (w1.drewN (q+1)).cell? ⟨w.heap.size+1,0,none⟩=some (.int .i64 0) from r0)) (.inr (by omega));have c1:=cO (v:=.int .i64 (d.tdiv a)) (ag (b':=w.heap.size+1) (o':=0) (v:=.int .i64 (n.tdiv a)) (show (w1.drewN (q+1)).cell? ⟨w.heap.size+1,1,none⟩=some (.int .i64 0) from r1) (.inr (by omega)));go_wp2;refine bodyPost_ret (v:=.tuple #[.agg #[.int .i64 (n.tdiv a),.int .i64 (d.tdiv a)],.bool true]) (by simp[results,Tryz.results186,go_sem,c0,c1]) rfl ⟨⟨_,_,rfl⟩,((bY HB1.out).setCell (Nat.le_succ _) _).setCell (Nat.le_succ _) _⟩
   ·have hq:(b != 0)=true:=by simpa using hb0
    have hr0:0<=a % b:=Int.emod_nonneg _ hb0;have hr1:a % b<b:=Int.emod_lt_of_pos _ (by omega);go_wp2;go_quiet (fail);go_wp2;go_roundw
    case rel=>exact ⟨b,a % b,q+nq,rfl,by first|rfl|(rw[Int.tmod_eq_emod_of_nonneg a1]),b1,hr0,b2,by omega,.inl (by omega),by first|exact World.drewN_drewN|(rw[World.drewN_drewN])⟩
    case measure=>simp[RowKit.intOf];omega
theorem zU (n d:Int):dh n d=(lZ n d&&decide (0<=n)):=by
 rw[dh,lZ,bO];by_cases h:0<=n
 ·have h2: -1073741824<=n:=by omega
  simp[h,h2]
 ·simp[h]
theorem CJ (w:World)(n d:Int):Calls Tryz.prog 147 #[.agg #[.int .i64 n,.int .i64 d]] w
  λe w'=>e=.returned (.bool (dh n d))/\Below w.heap.size w w':=by
 rw[zU];obtain ⟨F,hF⟩: ∃F,lZ n d=F:=⟨_,rfl⟩;have hR:=λW=>Il W n d;rw[hF]at hR⊢;clear hF;have HR:=hide hR;clear hR;by_cases h0:0<=n
 ·go_enter Tryz.func147,Tryz.ntmps147;go_wp2_with fail;refine (HR.out _).mono ?_;rintro e w1 ⟨⟨a,b,rfl⟩,hb1⟩;have hbb:=aa ae hb1;have g0:=ah (b:=w.heap.size) (o:=0) (v:=.int .i64 n) hb1 (by simp) (by simp[go_sem]);have HB1:=hide (hbb.alloc hbb.size (.cells #[.int .i64 a,.int .i64 b] 46));have g1:(w1.alloc (.cells #[.int .i64 a,.int .i64 b] 46)).cell? ⟨w.heap.size,0,none⟩=some (.int .i64 n):=ah ae (lt_of_cell g0) g0;have L0:=lt_of_cell g0;clear hb1 hbb;cases F
  ·go_wp2;go_ret;exact ⟨ay (by simp),HB1.out⟩
  ·go_wp2;go_ret;exact ⟨ay (by simp[h0]),HB1.out⟩
 ·go_enter Tryz.func147,Tryz.ntmps147;go_wp2_with fail;refine (HR.out _).mono ?_;rintro e w1 ⟨⟨a,b,rfl⟩,hb1⟩;have hbb:=aa ae hb1;have g0:=ah (b:=w.heap.size) (o:=0) (v:=.int .i64 n) hb1 (by simp) (by simp[go_sem]);have HB1:=hide (hbb.alloc hbb.size (.cells #[.int .i64 a,.int .i64 b] 46));have g1:(w1.alloc (.cells #[.int .i64 a,.int .i64 b] 46)).cell? ⟨w.heap.size,0,none⟩=some (.int .i64 n):=ah ae (lt_of_cell g0) g0;have L0:=lt_of_cell g0;clear hb1 hbb;cases F
  ·go_wp2;go_ret;exact ⟨ay (by simp),HB1.out⟩
  ·go_wp2;go_ret;exact ⟨ay (by simp[h0]),HB1.out⟩
theorem gI (w:World)(x:Chk)(A:Option Addr)(n c:Nat)(A':Option Addr)(n' c':Nat)(aX:Option Addr)(n'' c'':Nat)(rn:ByteArray)(A1:Option Addr)(n1 c1:Nat)(Ak:Option Addr)(nk ck:Nat)(A3:Option Addr)(n3 c3:Nat)(on:ByteArray)(A2:Option Addr)(n2 c2:Nat)(Al:Option Addr)(nl cl:Nat)(A4:Option Addr)(n4 c4:Nat):
  ∃W,W=((w.alloc (.cells #[.string x.name,.string x.table,.int .i64 x.kind,.slice A n c,.string x.other,.slice A' n' c',.int .i64 x.low,.int .i64 x.high,.slice aX n'' c'',.int .i64 x.ln,.int .i64 x.ld,.int .i64 x.mn,.int .i64 x.md,.int .i64 x.policy] 48)).alloc (.cells #[.string rn,.slice A1 n1 c1,.slice Ak nk ck,.slice A3 n3 c3] 29)).alloc (.cells #[.string on,.slice A2 n2 c2,.slice Al nl cl,.slice A4 n4 c4] 29)/\Hid (W.heap.size=w.heap.size+1+1+1)/\Below w.heap.size w W/\Hid (∀V,Below W.heap.size W V->(w.heap.size<V.heap.size/\V.cell? ⟨w.heap.size,0,none⟩=some (.string x.name)/\V.cell? ⟨w.heap.size,1,none⟩=some (.string x.table)/\V.cell? ⟨w.heap.size,2,none⟩=some (.int .i64 x.kind)/\V.cell? ⟨w.heap.size,3,none⟩=some (.slice A n c)/\V.cell? ⟨w.heap.size,4,none⟩=some (.string x.other)/\V.cell? ⟨w.heap.size,5,none⟩=some (.slice A' n' c')/\V.cell? ⟨w.heap.size,6,none⟩=some (.int .i64 x.low)/\V.cell? ⟨w.heap.size,7,none⟩=some (.int .i64 x.high)/\V.cell? ⟨w.heap.size,8,none⟩=some (.slice aX n'' c'')/\V.cell? ⟨w.heap.size,9,none⟩=some (.int .i64 x.ln)/\V.cell? ⟨w.heap.size,10,none⟩=some (.int .i64 x.ld)/\V.cell? ⟨w.heap.size,11,none⟩=some (.int .i64 x.mn)/\V.cell? ⟨w.heap.size,12,none⟩=some (.int .i64 x.md)/\V.cell? ⟨w.heap.size,13,none⟩=some (.int .i64 x.policy))/\(w.heap.size+1<V.heap.size/\V.cell? ⟨w.heap.size+1,0,none⟩=some (.string rn)/\V.cell? ⟨w.heap.size+1,1,none⟩=some (.slice A1 n1 c1)/\V.cell? ⟨w.heap.size+1,2,none⟩=some (.slice Ak nk ck)/\V.cell? ⟨w.heap.size+1,3,none⟩=some (.slice A3 n3 c3))/\w.heap.size+1+1<V.heap.size/\V.cell? ⟨w.heap.size+1+1,0,none⟩=some (.string on)/\V.cell? ⟨w.heap.size+1+1,1,none⟩=some (.slice A2 n2 c2)/\V.cell? ⟨w.heap.size+1+1,2,none⟩=some (.slice Al nl cl)/\V.cell? ⟨w.heap.size+1+1,3,none⟩=some (.slice A4 n4 c4)):=by
 obtain ⟨W1,hW1⟩: ∃W,W=w.alloc (.cells #[.string x.name,.string x.table,.int .i64 x.kind,.slice A n c,.string x.other,.slice A' n' c',.int .i64 x.low,.int .i64 x.high,.slice aX n'' c'',.int .i64 x.ln,.int .i64 x.ld,.int .i64 x.mn,.int .i64 x.md,.int .i64 x.policy] 48):=⟨_,rfl⟩;obtain ⟨hb1,S1,g0,g1,g2,g3,g4,g5,g6,g7,g8,g9,g10,g11,g12,g13⟩:=bT hW1 rfl;obtain ⟨W2,hW2⟩: ∃W,W=W1.alloc (.cells #[.string rn,.slice A1 n1 c1,.slice Ak nk ck,.slice A3 n3 c3] 29):=⟨_,rfl⟩;obtain ⟨hb2,S2,r0,r1,r2,r3⟩:=kr (b:=w.heap.size+1) hW2 (by rw[S1.out]);obtain ⟨W3,hW3⟩: ∃W,W=W2.alloc (.cells #[.string on,.slice A2 n2 c2,.slice Al nl cl,.slice A4 n4 c4] 29):=⟨_,rfl⟩;obtain ⟨hb3,S3,s0,s1,s2,s3⟩:=kr (b:=w.heap.size+1+1) hW3 (by rw[S2.out,S1.out]);refine ⟨W3,by rw[hW3,hW2,hW1],by rw[Hid,S3.out,S2.out,S1.out],aa (aa hb1 hb2) hb3,λV hV=>?_⟩;have a:=(mr g0 g1 g2 g3 g4 g5 g6 g7 g8 g9 g10 g11 g12 g13).out V (aa (aa hb2 hb3) hV);have b:=(sP r0 r1 r2 r3).out V (aa hb3 hV);exact ⟨a,b,(sP s0 s1 s2 s3).out V hV⟩
def Ip (l:List Int):Int:=l.foldl (λh x=>max h x) 0
theorem zT (l:List Int):raise l=Ip l+1:=by
 have key: ∀(l:List Int) (a:Int),l.foldl (λh x=>max h (1+x)) (a+1)=l.foldl (λh x=>max h x) a+1:=by
  intro l
  induction l with
  |nil=>intro a;rfl
  |cons x l ih=>
   intro a;rw[List.foldl_cons,List.foldl_cons,<-ih]
   congr 1
   omega
 exact key l 0
theorem K6 {l:List Int}{j:Nat}{x:Int}{r:List Int}(h:l.drop j=x :: r):Ip (l.take (j+1))=max (Ip (l.take j)) x:=by
 have hg:=bX h;rw[List.take_add_one,hg.1];simp[Ip,List.foldl_append]
theorem KY (w:World)(A:Option Addr)(r m c:Nat)(st:List Int)(hx:In w A (r+m) c st)(hbd: ∀h∈st,1<=h/\h<=64)(hr0:r+m<=4096):
  Calls Tryz.prog 154 #[.slice A (r+m) c,.int .i64 (m:Int)] w λe w'=>e=.returned (.tuple #[.int .i64 (raise (st.drop r)),.slice A r c])/\Below w.heap.size w w':=by
 have hcap:=hx.cap;have hrb: ∀j,1<=raise ((st.drop r).take j)/\raise ((st.drop r).take j)<=65:=λj=>zS λq hq=>hbd q (List.mem_of_mem_drop (List.mem_of_mem_take hq));have Sq:=hide hrb;have Ex:=hide hbd;have HL:=hide hx.len;clear hrb hbd;go_enter Tryz.func154,Tryz.ntmps154;go_wp2
 go_loop [6,8] (λh i=> ∃j:Nat,j<=m/\i=.int .i64 ((r:Int)+(j:Int))/\h=.int .i64 (Ip ((st.drop r).take j))) (λ_ i=>r+m-(intOf i).toNat)
 case atStart=>exact ⟨0,Nat.zero_le _,by simp,rfl⟩
 case round=>
  obtain ⟨j,hj,rfl,rfl⟩:=hrel;have hr1:=(Sq.out j).1;have hr2:=(Sq.out j).2;rw[zT]at hr1 hr2;by_cases hjm:j<m
  ·obtain ⟨b',off',y,rfl,hB',HY,y0,y1⟩:=hx.int (show r+j<r+m by omega);have HR:=hide (K6 (l:=st.drop r) (j:=j) (by rw[List.drop_drop];exact HY.out));have k0:(0:Int)<=(r:Int)+(j:Int):=by omega
   have k1:(r:Int)+(j:Int)<(r:Int)+(m:Int):=by omega
   have k2:((r:Int)+(j:Int)).toNat=r+j:=by omega
   go_wp2
   go_round
   case rel=>exact ⟨j+1,by omega,by go_num,by rw[HR.out]⟩
   case measure=>simp[intOf];omega
  ·obtain rfl:j=m:=by omega
   have Vi:Hid ((st.drop r).take j=st.drop r):=hide (List.take_of_length_le (by rw[List.length_drop,HL.out];omega));rw[Vi.out]at hr1 hr2⊢;have k3:(0:Int)<=(r:Int):=by omega
   have k4:(r:Int)<=(c:Int):=by omega
   have k5:IntKind.i64.wrap (Ip (st.drop r)+1)=Ip (st.drop r)+1:=IntWalk.i64_in _ (by omega);go_wp2;go_quiet (fail);go_wp2;go_ret2;exact ⟨by rw[zT];rfl,below_drewN (Below.refl _ _) _⟩
def Jc (w:World)(b o:Nat)(x:Node):Prop:=w.cell? ⟨b,o,none⟩=some (.int .i64 x.op)/\w.cell? ⟨b,o+1,none⟩=some (.int .i64 x.value.kind)/\w.cell? ⟨b,o+2,none⟩=some (.int .i64 x.value.num)/\w.cell? ⟨b,o+3,none⟩=some (.string x.value.str)/\
  w.cell? ⟨b,o+4,none⟩=some (.string x.name)/\w.cell? ⟨b,o+5,none⟩=some (.int .i64 x.arity)
theorem Jc.below {w w':World}{b o:Nat}{x:Node}(h:Jc w b o x)(hb:Below w.heap.size w w')(hl:b<w.heap.size):Jc w' b o x:=
 ⟨ah hb hl h.1,ah hb hl h.2.1,ah hb hl h.2.2.1,ah hb hl h.2.2.2.1,ah hb hl h.2.2.2.2.1,ah hb hl h.2.2.2.2.2⟩
theorem E5 (w:World)(A:Option Addr)(n c:Nat)(es:List Node)(hx:In w A n c es):
  Calls Tryz.prog 129 #[.slice A n c] w λe w'=>e=.returned (.int .i64 (bK es))/\Below w.heap.size w w':=by
 have h63:=hx.le;have hlen:=hide hx.len;obtain ⟨i0,hi,hz0,hz1,hz2⟩:=info_parts FH;by_cases h1:256<n
 ·have he:Hid (2=bK es):=hide (by simp only[bK];rw[hlen.out,if_pos h1]);go_enter Tryz.func129,Tryz.ntmps129;go_wp2;all_goals (go_ret;exact ⟨ax he.out,Below.refl _ _⟩)
 have jR:Hid (bK es=aS [] es):=hide (by simp only[bK];rw[hlen.out,if_neg h1]);go_enter Tryz.func129,Tryz.ntmps129;go_wp2;go_loopw [3,4] (λv i wr=> ∃(k d:Nat) (st:List Int) (B:Option Addr) (cb:Nat),k<=n/\d<=k/\i=.int .i64 k/\v=.slice B d cb/\aS [] es=aS st (es.drop k)/\Hts w wr st d B cb) (λ_ i _=>n-(intOf i).toNat)
 case atStart=>exact ⟨0,0,[],none,0,Nat.zero_le _,Nat.zero_le _,rfl,rfl,rfl,⟨Stk.nil_ _ _ _,rfl,(λ_ h=>by cases h),Below.refl _ _⟩⟩
 case round=>
  obtain ⟨k,d,st,B,cb,hk,hdk,rfl,rfl,heq,hst⟩:=hrel;have HE:=hide heq;have HST:=hide hst;clear heq hst;by_cases hlt:k<n
  ·obtain ⟨b,off,x,rfl,hB,HX,f0,f1,f2,f3,f4,f5,hok⟩:=(hx.below HST.out.below).node hlt;have NA:Hid (Jc wr b (off+k*6) x):=hide ⟨f0,f1,f2,f3,f4,f5⟩;go_wp2_with fail;refine (Fb x hok _).mono ?_;rintro e w1 ⟨rfl,hb1⟩;obtain ⟨g0,g1,g2,g3,g4,g5⟩:=NA.out.below hb1 hB;have Uw:=hide (NA.out.below hb1 hB);have Mr:=hide (HST.out.keep hb1);have z1:b<w1.heap.size:=by have:=hb1.size;omega
   clear hb1 f0 f1 f2 f3 f4 f5;cases hsh:shaped x
   ·have he:Hid (8=bK es):=hide (by rw[jR.out,HE.out,HX.out,aS,if_pos (.inl hsh)]);go_wp2;go_ret;exact ⟨ax he.out,Mr.out.below⟩
   obtain ⟨m,hm⟩: ∃m:Nat,arity x.op x.arity=(m:Int):=⟨(arity x.op x.arity).toNat,by have:=jS hsh;omega⟩;have QU:m<=8:=by have:=(jS hsh).2;omega
   have HM:=hide hm;have xW:=hide hsh;clear hsh hm;go_wp2_with fail;refine (l9 x _).mono ?_;rintro e w2 ⟨rfl,hb2⟩;rw[HM.out];obtain ⟨q0,q1,q2,q3,q4,q5⟩:=Uw.out.below hb2 z1;have cK:=hide (Mr.out.keep hb2);clear hb2 g0 g1 g2 g3 g4 g5;by_cases hmd:d<m
   ·have he:Hid (8=bK es):=hide (by rw[jR.out,HE.out,HX.out,aS,if_pos (.inr (by rw[HM.out,HST.out.len];omega))]);go_wp2;go_ret;exact ⟨ax he.out,cK.out.below⟩
   obtain ⟨r,rfl⟩: ∃r,d=r+m:=⟨d-m,by omega⟩;go_wp2_with fail;refine (l9 x _).mono ?_;rintro e w3 ⟨rfl,hb3⟩;rw[HM.out];have lw:=hide (cK.out.keep hb3);clear hb3 q0 q1 q2 q3 q4 q5 NA Uw;have dW:Hid (In w3 B (r+m) cb st):=hide (by have:=lw.out.stk.inn;rw[lw.out.len]at this;exact this);go_wp2_with fail;refine (KY _ _ r m _ st dW.out lw.out.bd (by omega)).mono ?_;rintro e w4 ⟨rfl,hb4⟩;have Ms:=hide (lw.out.keep hb4);clear hb4;have hrb:=zS (l:=st.drop r) λq hq=>Ms.out.bd q (List.mem_of_mem_drop hq);obtain ⟨hr1,hr2⟩:=hrb;by_cases hh:64<raise (st.drop r)
   ·have he:Hid (2=bK es):=hide (by rw[jR.out,HE.out,HX.out,tC xW.out HM.out lw.out.len hh]);go_wp2;go_ret;exact ⟨ax he.out,Ms.out.below⟩
   have HN:Hid (aS [] es=aS (st.take r++[raise (st.drop r)]) (es.drop (k+1))):=hide (by rw[HE.out,HX.out,nW xW.out HM.out lw.out.len (by omega)]);have fJ:Hid (r<=st.length):=hide (by rw[lw.out.len];omega);have hsz4:w.heap.size<=w4.heap.size:=Ms.out.below.size;go_wp2_with (at_builtin;refine nP (α:=Int) _ rfl (.tmp 44) (.tmp 46) 38 rfl w.heap.size 3 i0 _ 8 Tryz.underlying38 hi hz0 hz1 hz2 rfl (by decide) B cb r st (Ms.out.stk.keep ae) fJ.out rfl (raise (st.drop r)) (wD (by omega)) w4.heap.size rfl (bH _ _ _ _ rfl) (by omega) (by simp;omega) ?_;intro A' c' w5 sQ hb5);have HP:=hide (Ms.out.push sQ hb5 (by omega));clear sQ hb5;go_wp2;go_roundw
   case rel=>exact ⟨k+1,r+1,_,A',c',by omega,by omega,by go_num,rfl,HN.out,HP.out⟩
   case measure=>simp[intOf];omega
  ·have HX:=hide (aI hx.len (show n<=k by omega));by_cases hd1:d=1
   ·have he:Hid (0=bK es):=hide (by rw[jR.out,HE.out,HX.out,aS,if_neg (by rw[HST.out.len];omega)]);subst hd1;go_wp2;go_ret;exact ⟨ax he.out,HST.out.below⟩
   ·have he:Hid (8=bK es):=hide (by rw[jR.out,HE.out,HX.out,aS,if_pos (by rw[HST.out.len];omega)]);have q1:((d:Int) != 1)=true:=by simp;omega
    clear hd1;go_wp2;go_ret;exact ⟨ax he.out,HST.out.below⟩
end Go.Proofs.YtopjjlmfilgngaaGreatDoor
