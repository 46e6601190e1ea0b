/-
  expr.Validate: it returns exprErr. Slices of nodes of the call's own: their cells, appends onto them, slices cut off at a length. No program is in sight but for the shape of a node. schema.Indices, schema.Pick; warehouseref5.Indices, Pick. api.Check as data; the errors of check.Validate; check.usesOther, usesCond, exact.formed, exact.Reduce, check.share. exact.formed, exact.Reduce, check.share. A check and two relations, boxed: what every function of these begins with. (Printed by gen_all.py.)
-/
import Derived.Test.YtopjjlmfilgngaaGreatDoorGah
import Derived.Test.YtopjjlmfilgngaaGreatDoorStk
import Derived.Test.YtopjjlmfilgngaaGreatDoorGad
import Derived.Test.YtopjjlmfilgngaaGreatDoorGag
import Derived.Test.YtopjjlmfilgngaaGreatDoorGae
import Derived.Test.YtopjjlmfilgngaaGreatDoorGaa
import Derived.Test.YtopjjlmfilgngaaGreatDoorGac
namespace Go.Proofs.YtopjjlmfilgngaaGreatDoor
set_option maxHeartbeats 4000000
set_option maxRecDepth 100000
open Go.RowKit
set_option linter.unusedSimpArgs false
set_option linter.unusedVariables false
theorem In.node {w:World}{A:Option Addr}{n c k:Nat}{xs:List Node}(h:In w A n c xs)(hk:k<n): ∃b off x,A=some ⟨b,off,none⟩/\b<w.heap.size/\Hid (xs.drop k=x :: xs.drop (k+1))/\
  w.cell? ⟨b,off+k*6,none⟩=some (.int .i64 x.op)/\w.cell? ⟨b,off+k*6+1,none⟩=some (.int .i64 x.value.kind)/\w.cell? ⟨b,off+k*6+2,none⟩=some (.int .i64 x.value.num)/\w.cell? ⟨b,off+k*6+3,none⟩=some (.string x.value.str)/\
  w.cell? ⟨b,off+k*6+4,none⟩=some (.string x.name)/\w.cell? ⟨b,off+k*6+5,none⟩=some (.int .i64 x.arity)/\x.ok:=by
 obtain ⟨b,off,x,e,hb,hx,cs,⟨rfl,hv⟩,hc⟩:=h.get hk;exact ⟨b,off,x,e,hb,hx,hc 0 (by simp[Node.cells]),hc 1 (by simp[Node.cells]),hc 2 (by simp[Node.cells]),hc 3 (by simp[Node.cells]),hc 4 (by simp[Node.cells]),hc 5 (by simp[Node.cells]),hv⟩
def aH (w:World)(b:Nat)(x:Node):Prop:=w.cell? ⟨b,0,none⟩=some (.int .i64 x.op)/\w.cell? ⟨b,1,none⟩=some (.int .i64 x.value.kind)/\w.cell? ⟨b,2,none⟩=some (.int .i64 x.value.num)/\w.cell? ⟨b,3,none⟩=some (.string x.value.str)/\
  w.cell? ⟨b,4,none⟩=some (.string x.name)/\w.cell? ⟨b,5,none⟩=some (.int .i64 x.arity)
theorem aH.below {w w':World}{b:Nat}{x:Node}(h:aH w b x)(hb:Below w.heap.size w w')(hl:b<w.heap.size):aH w' b x:=
 ⟨aj hb hl h.1,aj hb hl h.2.1,aj hb hl h.2.2.1,aj hb hl h.2.2.2.1,aj hb hl h.2.2.2.2.1,aj hb hl h.2.2.2.2.2⟩
theorem aH.made (w:World)(x:Node):aH (w.alloc (.cells #[.int .i64 x.op,.int .i64 x.value.kind,.int .i64 x.value.num,.string x.value.str,.string x.name,.int .i64 x.arity] 89)) w.heap.size x:=by
 refine ⟨?_,?_,?_,?_,?_,?_⟩ <;> simp[go_sem]
theorem jw {n:Node}(h:shaped n=true):0<=arity n.op n.arity/\arity n.op n.arity<=8:=by
 obtain ⟨op,v,nm,ar⟩:=n;simp only[shaped]at h;unfold arity;by_cases h0:op=0
 ·simp[h0]
 rw[if_neg h0]at h;by_cases h1:op=21
 ·subst h1;simp at h;simp;omega
 rw[if_neg h1]at h;by_cases h2:op=1
 ·simp[h2]
 rw[if_neg h2]at h;by_cases h3:op=20
 ·simp[h3]
 rw[if_neg h3]at h;simp only[Bool.and_eq_true,decide_eq_true_eq]at h;have h4:=h.2.2.2;refine ⟨h4,?_⟩
 (repeat' split) <;> omega
theorem Br {l:List Int}{j:Nat}{x:Int}{r:List Int}(h:l.drop j=x :: r):raise (l.take (j+1))=max (raise (l.take j)) (1+x):=by
 have hg:=bE h;rw[List.take_add_one,hg.1];simp[raise,List.foldl_append]
theorem Gi {l:List Int}(h: ∀x∈l,1<=x/\x<=64):1<=raise l/\raise l<=65:=by
 have key: ∀(l:List Int) (a:Int),(∀x∈l,1<=x/\x<=64)->1<=a/\a<=65->1<=l.foldl (λh x=>max h (1+x)) a/\l.foldl (λh x=>max h (1+x)) a<=65:=by
  intro l
  induction l with
  |nil=>intro a _ h;exact h
  |cons x l ih=>
   intro a hl ha;have hx:=hl x (by simp);have hm:1<=max a (1+x)/\max a (1+x)<=65:=by omega
   exact ih _ (λy hy=>hl y (by simp[hy])) hm
 exact key l 1 h (by omega)
theorem FW:(Tryz.prog.info? 3).map (λi=>(i.zero,i.size,i.bytes))=some (some (.int .i64 0),1,8):=by kernel_rfl
structure Hts (w wr:World) (st:List Int) (d:Nat) (A:Option Addr) (c:Nat):Prop where
 stk:Stk w.heap.size wr 3 A c st
 len:st.length=d
 bd: ∀h∈st,1<=h/\h<=64
 below:Below w.heap.size w wr
theorem Hts.keep {w wr w':World}{st:List Int}{d:Nat}{A:Option Addr}{c:Nat}(h:Hts w wr st d A c)(hb:Below wr.heap.size wr w'):Hts w w' st d A c:=
 ⟨h.stk.keep hb,h.len,h.bd,aa h.below hb⟩
theorem qH {α:Type}[Flat α]{Bs:Nat}{w3:World}{e:TypeId}{st:List α}{r m:Nat}{B:Option Addr}{cb:Nat}(h:Stk Bs w3 e B cb st)(hl:st.length=r+m):
  (r=cb/\m=0)\/(¬cb=r/\ ∃g,B=some ⟨g,0,none⟩/\In w3 (some ⟨g,r*Rep.size α,none⟩) m (cb-r) (st.drop r)):=by
 have h1:=h.cap;rw[hl]at h1;by_cases hc:cb=r
 ·exact .inl ⟨hc.symm,by omega⟩
 ·refine .inr ⟨hc,?_⟩;rcases h.addr with rfl|⟨g,rfl⟩
  ·have:=h.none_ rfl;omega
  ·have h2:=h.from_ (k:=r) (by rw[hl];omega);rw[hl,if_neg hc,show r+m-r=m by omega,Option.map_some,gG,Nat.zero_add]at h2;exact ⟨g,rfl,h2⟩
theorem Hts.push {w w3 w4:World}{st:List Int}{r m:Nat}{B:Option Addr}{cb:Nat}(h:Hts w w3 st (r+m) B cb){o:Obj}{A':Option Addr}{c':Nat}{y:Int}(h4:Stk w.heap.size w4 3 A' c' (st.take r++[y]))(hb:Below w.heap.size (w3.alloc o) w4)(hy:1<=y/\y<=64):
  Hts w w4 (st.take r++[y]) (r+1) A' c':=by
 refine ⟨h4,?_,?_,(aa h.below ae).trans hb⟩
 ·rw[List.length_append,List.length_take,h.len];simp
 ·intro q hq;rcases List.mem_append.1 hq with hq|hq
  ·exact h.bd q (List.mem_of_mem_take hq)
  ·simp at hq;subst hq;exact hy
theorem ku {x:Node}{r m:Nat}(hm:arity x.op x.arity=(m:Int)):iq x (r+m)=r:=by
 rw[iq,hm,Int.toNat_natCast];omega
theorem uS {x:Node}{l:List Node}{st:List Int}{r m:Nat}(hsh:shaped x=true)(hm:arity x.op x.arity=(m:Int))(hl:st.length=r+m)(hr:64<raise (st.drop r)):aM st (x :: l)=2:=by
 rw[aM,if_neg (by rw[hsh,hm,hl];simp;omega),hl,ku hm,if_pos hr]
theorem nN {x:Node}{l:List Node}{st:List Int}{r m:Nat}(hsh:shaped x=true)(hm:arity x.op x.arity=(m:Int))(hl:st.length=r+m)(hr:raise (st.drop r)<=64):aM st (x :: l)=aM (st.take r++[raise (st.drop r)]) l:=by
 rw[aM,if_neg (by rw[hsh,hm,hl];simp;omega),hl,ku hm,if_neg (by omega)]
theorem vW {y:Int}(h:1<=y/\y<=65):dH y:=by unfold dH;omega
theorem xy {α:Type}{l:List α}{r j:Nat}{x:α}{q:List α}(h:(l.drop r).drop j=x :: q):x∈l:=by
 have hx:x∈(l.drop r).drop j:=by rw[h];simp
 exact List.mem_of_mem_drop (List.mem_of_mem_drop hx)
theorem yF (w:World)(A:Option Addr)(n c:Nat)(es:List Node)(hx:In w A n c es)(hw:Words w):
  Calls Tryz.prog 233 #[.slice A n c] w λe w'=>e=.returned (.int .i64 (bW es))/\Below w.heap.size w w':=by
 have h63:=hx.le;have hlen:=hide hx.len;obtain ⟨i0,hi,hz0,hz1,hz2⟩:=info_parts FW;by_cases h1:256<n
 ·have he:Hid (2=bW es):=hide (by simp only[bW];rw[hlen.out,if_pos h1]);go_enter Tryz.func233,Tryz.ntmps233;go_wp2;all_goals (go_ret;exact ⟨ai he.out,Below.refl _ _⟩)
 have lF:Hid (bW es=aM [] es):=hide (by simp only[bW];rw[hlen.out,if_neg h1]);go_enter Tryz.func233,Tryz.ntmps233;go_wp2;go_loopw [3,15] (λv i wr=> ∃(k d:Nat) (st:List Int) (B:Option Addr) (cb:Nat),k<=n/\d<=k/\i=.int .i64 k/\v=.slice B d cb/\aM [] es=aM st (es.drop k)/\Hts w wr st d B cb) (λ_ i _=>n-(intOf i).toNat)
 case atStart=>exact ⟨0,0,[],none,0,Nat.zero_le _,Nat.zero_le _,rfl,rfl,rfl,⟨Stk.nil_ _ _ _,rfl,(λ_ h=>by cases h),Below.refl _ _⟩⟩
 case round=>
  obtain ⟨k,d,st,B,cb,hk,hdk,rfl,rfl,heq,hst⟩:=hrel;have HE:=hide heq;have HST:=hide hst;clear heq hst;by_cases hlt:k<n
  ·obtain ⟨b,off,x,rfl,hB,HX,f0,f1,f2,f3,f4,f5,hok⟩:=(hx.below HST.out.below).node hlt;have NA:=hide (aH.made wr x);go_wp2_with fail;refine (BA x hok _ (hw.below (aa HST.out.below ae))).mono ?_;rintro e w1 ⟨rfl,hb1⟩;obtain ⟨g0,g1,g2,g3,g4,g5⟩:=NA.out.below hb1 (by simp);have QX:=hide (NA.out.below hb1 (by simp));have Nn:=hide ((HST.out.keep ae).keep hb1);have z1:wr.heap.size<w1.heap.size:=by have:=hb1.size;simp at this;omega
   clear hb1 f0 f1 f2 f3 f4 f5;cases hsh:shaped x
   ·have he:Hid (8=bW es):=hide (by rw[lF.out,HE.out,HX.out,aM,if_pos (.inl hsh)]);go_wp2;go_ret;exact ⟨ai he.out,Nn.out.below⟩
   obtain ⟨m,hm⟩: ∃m:Nat,arity x.op x.arity=(m:Int):=⟨(arity x.op x.arity).toNat,by have:=jw hsh;omega⟩;have Jy:m<=8:=by have:=(jw hsh).2;omega
   have HM:=hide hm;have Ei:=hide hsh;clear hsh hm;go_wp2_with fail;refine (jV x _).mono ?_;rintro e w2 ⟨rfl,hb2⟩;rw[HM.out];obtain ⟨q0,q1,q2,q3,q4,q5⟩:=QX.out.below hb2 z1;have Vl:=hide (QX.out.below hb2 z1);have dI:=hide (Nn.out.keep hb2);have z2:wr.heap.size<w2.heap.size:=by have:=hb2.size;omega
   clear hb2 g0 g1 g2 g3 g4 g5;by_cases hmd:d<m
   ·have he:Hid (8=bW es):=hide (by rw[lF.out,HE.out,HX.out,aM,if_pos (.inr (by rw[HM.out,HST.out.len];omega))]);go_wp2;go_ret;exact ⟨ai he.out,dI.out.below⟩
   obtain ⟨r,rfl⟩: ∃r,d=r+m:=⟨d-m,by omega⟩;go_wp2_with fail;refine (jV x _).mono ?_;rintro e w3 ⟨rfl,hb3⟩;rw[HM.out];have lG:=hide (dI.out.keep hb3);clear hb3 q0 q1 q2 q3 q4 q5 NA QX Vl;have hcap:=lG.out.stk.cap;rw[lG.out.len]at hcap;have hbd: ∀(j:Nat) (y:Int) (q:List Int),(st.drop r).drop j=y :: q->1<=y/\y<=64:=λ_ _ _ h=>HST.out.bd _ (xy h);have hrb: ∀j,1<=raise ((st.drop r).take j)/\raise ((st.drop r).take j)<=65:=λj=>Gi λq hq=>HST.out.bd q (List.mem_of_mem_drop (List.mem_of_mem_take hq));have R6:=hide hbd;have Ph:=hide hrb;clear hbd hrb;rcases qH lG.out.stk lG.out.len with ⟨rfl,rfl⟩|⟨hc,g,rfl,hin⟩
   ·go_wp2
    go_loop [7,38] (λh i=>i=.int .i64 0/\h=.int .i64 1) (λ_ i=>0)
    case atStart=>exact ⟨rfl,rfl⟩
    case round=>
     obtain ⟨rfl,rfl⟩:=hrel;have HR1:Hid (raise (st.drop r)=1):=hide (by rw[List.drop_eq_nil_of_le (by rw[lG.out.len];omega)];rfl);have HN:Hid (aM [] es=aM (st.take r++[1]) (es.drop (k+1))):=hide (by rw[HE.out,HX.out,nN Ei.out HM.out lG.out.len (by rw[HR1.out];omega),HR1.out]);have fe:Hid (r<=st.length):=hide (by rw[lG.out.len];omega);have OV:w.heap.size<=w3.heap.size:=lG.out.below.size;go_wp2_with (at_builtin;refine mG (α:=Int) _ rfl (.tmp 51) (.tmp 53) 38 rfl w.heap.size 3 i0 _ 8 Tryz.underlying38 hi hz0 hz1 hz2 rfl (by decide) B r r st (lG.out.stk.keep ae) fe.out rfl 1 (vW (by omega)) w3.heap.size rfl (bM _ _ _ _ rfl) (by omega) (by simp;omega) ?_;intro A' c' w4 FR hb4);have HP:=hide (lG.out.push FR hb4 (by omega));clear FR hb4;go_wp2;go_roundw
     case rel=>exact ⟨k+1,r+1,_,A',c',by omega,by omega,by go_num,rfl,HN.out,HP.out⟩
     case measure=>simp[intOf];omega
   ·rw[show r*Rep.size Int=r from Nat.mul_one r]at hin;go_wp2
    go_loop [7,38] (λh i=> ∃j:Nat,j<=m/\i=.int .i64 j/\h=.int .i64 (raise ((st.drop r).take j))) (λ_ i=>m-(intOf i).toNat)
    case atStart=>exact ⟨0,Nat.zero_le _,rfl,rfl⟩
    case round=>
     obtain ⟨j,hj,rfl,rfl⟩:=hrel;have hr1:=(Ph.out j).1;have hr2:=(Ph.out j).2;by_cases hjm:j<m
     ·obtain ⟨b',off',y,e,hB',HY,y0,y1⟩:=hin.int hjm;injection e with e;injection e with e_1 e_2;subst e_1 e_2;have hy1:=(R6.out _ _ _ HY.out).1;have hy2:=(R6.out _ _ _ HY.out).2;have HR:=hide (Br HY.out);go_wp2
      go_round
      case rel=>exact ⟨j+1,by omega,by go_num,by rw[HR.out]⟩
      case measure=>simp[intOf];omega
     ·obtain rfl:j=m:=by omega
      have QK:Hid ((st.drop r).take j=st.drop r):=hide (List.take_of_length_le (by rw[List.length_drop,lG.out.len];omega));rw[QK.out]at hr1 hr2⊢;by_cases hh:64<raise (st.drop r)
      ·have he:Hid (2=bW es):=hide (by rw[lF.out,HE.out,HX.out,uS Ei.out HM.out lG.out.len hh]);go_wp2;go_ret;exact ⟨ai he.out,lG.out.below⟩
      have HN:Hid (aM [] es=aM (st.take r++[raise (st.drop r)]) (es.drop (k+1))):=hide (by rw[HE.out,HX.out,nN Ei.out HM.out lG.out.len (by omega)]);have fe:Hid (r<=st.length):=hide (by rw[lG.out.len];omega);have OV:w.heap.size<=w3.heap.size:=lG.out.below.size;go_wp2_with (at_builtin;refine mG (α:=Int) _ rfl (.tmp 51) (.tmp 53) 38 rfl w.heap.size 3 i0 _ 8 Tryz.underlying38 hi hz0 hz1 hz2 rfl (by decide) (some ⟨g,0,none⟩) cb r st (lG.out.stk.keep ae) fe.out rfl (raise (st.drop r)) (vW (by omega)) w3.heap.size rfl (bM _ _ _ _ rfl) (by omega) (by simp;omega) ?_;intro A' c' w4 FR hb4);have HP:=hide (lG.out.push FR hb4 (by omega));clear FR hb4;go_wp2;go_roundw
      case rel=>exact ⟨k+1,r+1,_,A',c',by omega,by omega,by go_num,rfl,HN.out,HP.out⟩
      case measure=>simp[intOf];omega
  ·have HX:=hide (aD hx.len (show n<=k by omega));by_cases hd1:d=1
   ·have he:Hid (0=bW es):=hide (by rw[lF.out,HE.out,HX.out,aM,if_neg (by rw[HST.out.len];omega)]);subst hd1;go_wp2;go_ret;exact ⟨ai he.out,HST.out.below⟩
   ·have he:Hid (8=bW es):=hide (by rw[lF.out,HE.out,HX.out,aM,if_pos (by rw[HST.out.len];omega)]);have q1:((d:Int) != 1)=true:=by simp;omega
    clear hd1;go_wp2;go_ret;exact ⟨ai he.out,HST.out.below⟩
instance:Flat Node where
 cs v:=v.cells
 ok v:=v.ok
 rd_mk _ _ _ h:=⟨rfl,h⟩
 cs_len _:=rfl
 cs_one v u hu:=by simp[Node.cells]at hu;rcases hu with rfl|rfl|rfl|rfl|rfl|rfl <;> rfl
 pos:=by decide
instance:Flat Col where
 cs v:=v.cells
 ok v:=v.ok
 rd_mk _ _ _ h:=⟨rfl,h⟩
 cs_len _:=rfl
 cs_one v u hu:=by simp[Col.cells]at hu;rcases hu with rfl|rfl|rfl <;> rfl
 pos:=by decide
instance:Flat ByteArray where
 cs v:=[.string v]
 ok v:=Str v
 rd_mk _ _ _ h:=⟨rfl,h⟩
 cs_len _:=rfl
 cs_one v u hu:=by simp at hu;subst hu;rfl
 pos:=by decide
class Plain (α:Type) extends Flat α where
 inv: ∀{w:World} {S:Nat->Prop} {cs:List Value} {a:α},Rep.rd w S cs a->cs=Flat.cs a/\Flat.ok a
instance:Plain Node:=⟨λh=>h⟩
instance:Plain Col:=⟨λh=>h⟩
instance:Plain Val:=⟨λh=>h⟩
instance:Plain ByteArray:=⟨λh=>h⟩
theorem Sl.take {β:Type}[Rep β]{w:World}{S:Nat->Prop}{A:Option Addr}{n c k:Nat}{xs:List β}(h:Sl w S A n c xs)(hk:k<=n):Sl w S A k c (xs.take k):=by
 refine ⟨by rw[List.length_take,h.1];omega,by have:=h.2.1;omega,h.2.2.1,h.2.2.2.1,λhk0=>?_⟩;obtain ⟨b,off,e,hb,hi⟩:=h.2.2.2.2 (by omega);refine ⟨b,off,e,hb,λi hi'=>?_⟩;have hl:i<xs.length:=by rw[List.length_take]at hi';omega
 have:=hi i hl;rw[List.getElem_take];exact this
theorem In.take {β:Type}[Rep β]{w:World}{A:Option Addr}{n c k:Nat}{xs:List β}(h:In w A n c xs)(hk:k<=n):In w A k c (xs.take k):=Sl.take h hk
theorem Stk.made {α:Type}[Flat α]{w:World}{B:Nat}{e:TypeId}{xs:List α}{arr:Array Value}(ha:arr.toList=xs.flatMap Flat.cs)(hok: ∀x∈xs,Flat.ok x)(hB:B<=w.heap.size)(hx:xs.length<=4096):
  Stk B (w.alloc (.cells arr e)) e (some ⟨w.heap.size,0,none⟩) xs.length xs:=by
 have hl:arr.size=xs.length*Rep.size α:=by rw[<-Array.length_toList,ha,je]
 refine ⟨⟨by rw[je],.inr ⟨w.heap.size,xs.length,arr,rfl,hB,heap_alloc_new w _,Nat.le_refl _,by simp only[maxLen];omega,hl,?_⟩⟩,hok⟩;rw[ha,<-je,List.take_length]
theorem Stk.at_ {α:Type}[Flat α]{w:World}{B g:Nat}{e:TypeId}{xs:List α}{arr:Array Value}(h:w.heap[g]?=some (.cells arr e (0,0)))(ha:arr.toList=xs.flatMap Flat.cs)(hok: ∀x∈xs,Flat.ok x)(hB:B<=g){n:Nat}(hn:xs.length=n)(hx:n<=4096):
  Stk B w e (some ⟨g,0,none⟩) n xs:=by
 subst hn;have hl:arr.size=xs.length*Rep.size α:=by rw[<-Array.length_toList,ha,je]
 refine ⟨⟨by rw[je],.inr ⟨g,xs.length,arr,rfl,hB,h,Nat.le_refl _,by simp only[maxLen];omega,hl,?_⟩⟩,hok⟩;rw[ha,<-je,List.take_length]
section
variable {α:Type}[Plain α]{P:Program}{w:World}
end
theorem AP:Elem Tryz.prog 38 3 1 8:=mM (.int .i64 0) Tryz.underlying38 (by kernel_rfl) rfl (by decide)
theorem pG (s:ByteArray): ∀(l:List Col) (k:Nat), -1<=aI s k l/\aI s k l<(k:Int)+l.length
 | [],k=>by rw[aI];simp;omega
 |x :: l,k=>by
  rw[aI]
  split
  ·simp;omega
  ·have:=pG s l (k+1);rw[List.length_cons];omega
theorem zf (cols:List Col)(s:ByteArray): -1<=index cols s/\index cols s<cols.length:=by
 have:=pG s cols 0;rw[index];omega
def ze (cols:List Col)(names:List ByteArray)(i:Nat)(s:ByteArray):Int:=if index cols s<0 then 5 else if iJ (names.take i) s then 6 else 0
def jh (cols:List Col)(names:List ByteArray):Int:=ag (ze cols names) 0 names
def aW (cols:List Col)(names:List ByteArray):Int×List Int:=if jh cols names≠0 then (jh cols names,[]) else (0,names.map (index cols))
theorem ma (w:World)(A:Option Addr)(n c:Nat)(cols:List Col)(hx:In w A n c cols)(A2:Option Addr)(n2 c2:Nat)(names:List ByteArray)(hy:In w A2 n2 c2 names)(hn:n2<=1048576)(hn1:n<=1048576):
  Calls Tryz.prog 108 #[.slice A n c,.slice A2 n2 c2] w
   λe w'=>(∃v,e=.returned (.tuple #[v,.int .i64 (aW cols names).1])/\OL 3 w.heap.size (λ_=>False) [] w' v (aW cols names).2)/\Below w.heap.size w w':=by
 have HD:=hide (show aW cols names=if jh cols names≠0 then (jh cols names,[]) else (0,names.map (index cols)) from rfl);obtain ⟨R,hR⟩: ∃R,aW cols names=R:=⟨_,rfl⟩;rw[hR]at HD;rw[hR];clear hR;have HX:=hide hx;have HY:=hide hy;have h63:=hy.le;have h64:=hx.le;clear hx hy;go_enter Tryz.func108,Tryz.ntmps108;go_wp2;go_loopw [6,12] (λo i wr=> ∃(k:Nat) (zs:List Int),k<=n2/\i=.int .i64 k/\zs=(names.take k).map (index cols)/\zs.length<=k/\jh cols names=ag (ze cols names) k (names.drop k)/\OL 3 w.heap.size (λ_=>False) [] wr o zs/\Below w.heap.size w wr) (λ_ i _=>n2-(RowKit.intOf i).toNat)
 case atStart=>exact ⟨0,[],Nat.zero_le _,rfl,by simp,by simp,rfl,OL.nil (Nat.le_refl _),Below.refl _ _⟩
 case round=>
  obtain ⟨k,zs,hk,rfl,hzs,hzl,heq,ho,hb⟩:=hrel;have HZ:=hide hzs;have HE:=hide heq;have HO:=hide ho;have HB:=hide hb;clear hzs heq ho hb;by_cases hlt:k<n2
  ·obtain ⟨b,off,s,rfl,hBb,HS,e0,e1⟩:=(HY.out.below HB.out).str hlt;have k0:(0:Int)<=(k:Int):=by omega
   have k1:(k:Int)<(n2:Int):=by omega
   have kc:(k:Int)<=(c2:Int):=by have:=HY.out.cap;omega
   have hcap:=HY.out.cap;obtain ⟨r,hr⟩: ∃r,index cols s=r:=⟨_,rfl⟩;have hbd:=zf cols s;rw[hr,HX.out.len]at hbd;have Ni:=hide hr;clear hr;go_wp2_with fail;refine (qE _ A n c cols (by exact HX.out.below HB.out) s).mono ?_;rintro e w1 ⟨rfl,hb1⟩;rw[Ni.out];have Ht:=hide (HO.out.below hb1);have HB1:=hide (aa HB.out hb1);have HT:=hide ((HY.out.below HB1.out).take hk);clear hb1 e0;by_cases hneg:r<0
   ·have he:Hid (R=(5,[])):=hide (by
     have h1:jh cols names=5:=by rw[HE.out,HS.out];exact aK (by rw[ze,Ni.out,if_pos hneg]) (by omega)
     rw[HD.out,h1,if_pos (by omega)])
    obtain rfl:=he.out;go_wp2;all_goals (try (exfalso;go_light;simp_all;done));go_ret2;exact ⟨⟨_,rfl,OL.nil HB1.out.size⟩,HB1.out⟩
   ·have M8:=hide hneg;go_wp2_with fail;refine (sZ _ _ k c2 (names.take k) (by exact HT.out) s).mono ?_;rintro e w2 ⟨rfl,rfl⟩;cases hh:iJ (names.take k) s
    ·have HC:Hid (jh cols names=ag (ze cols names) (k+1) (names.drop (k+1))):=hide (by
      rw[HE.out,HS.out];exact aT (by rw[ze,Ni.out,if_neg (by have:=M8.out;omega),hh];rfl))
     have hz2:Hid ((names.take (k+1)).map (index cols)=zs++[r]):=hide (by rw[bN HS.out,List.map_append,HZ.out,List.map_cons,Ni.out];rfl);have VL:zs.length+1<=maxLen:=by simp only[maxLen];omega
     have RN:(zs.length+1)*8<=140737488355328:=by omega
     go_wp2_with (at_builtin;refine bf _ rfl _ _ _ rfl AP (by simp) _ _ rfl Ht.out rfl rfl r ⟨rfl,⟨(by omega),(by omega)⟩⟩ VL RN ?_;intro v1 w9 vV fo xe pE);have Aa:=hide vV;have zZ:=hide (HB1.out.trans fo);clear vV fo xe pE;go_wp2;go_roundw
     case rel=>exact ⟨k+1,zs++[r],by omega,by go_num,hz2.out.symm,by simp;omega,HC.out,Aa.out,zZ.out⟩
     case measure=>simp[RowKit.intOf];omega
    ·have he:Hid (R=(6,[])):=hide (by
      have h1:jh cols names=6:=by rw[HE.out,HS.out];exact aK (by rw[ze,Ni.out,if_neg (by have:=M8.out;omega),hh];rfl) (by omega)
      rw[HD.out,h1,if_pos (by omega)])
     obtain rfl:=he.out;go_wp2;all_goals (try (exfalso;go_light;simp_all;done));go_ret2;exact ⟨⟨_,rfl,OL.nil HB1.out.size⟩,HB1.out⟩
  ·have he:Hid (R=(0,zs)):=hide (by
    have h1:jh cols names=0:=by rw[HE.out,aD HY.out.len (by omega),ag]
    rw[HD.out,h1,if_neg (by omega),HZ.out,List.take_of_length_le (by have:=HY.out.len;omega)])
   obtain rfl:=he.out;go_wp2;all_goals (try (exfalso;go_light;simp_all;done));go_ret2;exact ⟨⟨_,rfl,HO.out⟩,HB.out⟩
structure Chk where
 name:ByteArray
 table:ByteArray
 kind:Int
 cols:List ByteArray
 other:ByteArray
 ocols:List ByteArray
 low:Int
 high:Int
 cond:List Node
 ln:Int
 ld:Int
 mn:Int
 md:Int
 policy:Int
instance:Inhabited Chk:=⟨⟨⟨#[]⟩,⟨#[]⟩,0,[],⟨#[]⟩,[],0,0,[],0,0,0,0,0⟩⟩
instance:Rep Chk where
 size:=14
 rd w S cs x:= ∃A n c A' n' c' bX n'' c'',cs=[.string x.name,.string x.table,.int .i64 x.kind,.slice A n c,.string x.other,.slice A' n' c',.int .i64 x.low,.int .i64 x.high,.slice bX n'' c'',.int .i64 x.ln,.int .i64 x.ld,.int .i64 x.mn,.int .i64 x.md,.int .i64 x.policy]/\
  Sl w S A n c x.cols/\Sl w S A' n' c' x.ocols/\Sl w S bX n'' c'' x.cond/\(Str x.name/\Str x.table/\dH x.kind/\Str x.other/\dH x.low/\dH x.high/\dH x.ln/\dH x.ld/\dH x.mn/\dH x.md/\dH x.policy)
 len h:=by obtain ⟨_,_,_,_,_,_,_,_,_,rfl,_⟩:=h;rfl
 keep hs h:=by obtain ⟨A,n,c,A',n',c',bX,n'',c'',rfl,h1,h2,h3,h4⟩:=h;exact ⟨A,n,c,A',n',c',bX,n'',c'',rfl,h1.keep hs,h2.keep hs,h3.keep hs,h4⟩
 mono hs h:=by obtain ⟨A,n,c,A',n',c',bX,n'',c'',rfl,h1,h2,h3,h4⟩:=h;exact ⟨A,n,c,A',n',c',bX,n'',c'',rfl,h1.mono hs,h2.mono hs,h3.mono hs,h4⟩
def fG (k:Int):Bool:=k==3 || k==6
def nS (k:Int):Bool:=k==4 || k==5
def iT (n d:Int):Bool:=decide (0<=n)&&decide (n<=1073741824)&&(decide (1<=d)&&decide (d<=1073741824))
def iN (c:Chk)(cols ocols:List Col):Int:=
 if (aW cols c.cols).1≠0 then (aW cols c.cols).1
 else if (aW cols c.cols).2.length=0\/((c.kind=2\/c.kind=6)/\1<(aW cols c.cols).2.length) then 8
 else if (c.kind=2\/c.kind=6)/\(cols.getD ((aW cols c.cols).2.getD 0 0).toNat default).kind≠2 then 7
 else if fG c.kind=false then 0
 else if aC ocols≠0 then aC ocols
 else if (aW ocols c.ocols).1≠0 then (aW ocols c.ocols).1
 else if (aW cols c.cols).2.length≠(aW ocols c.ocols).2.length then 8
 else if (List.zip (aW cols c.cols).2 (aW ocols c.ocols).2).any (λp=>(cols.getD p.1.toNat default).kind != (ocols.getD p.2.toNat default).kind) then 7 else 0
def jy (c:Chk)(cols:List Col)(zs:List Zone):Int:=
 if (bR c.cond cols zs).1≠0 then (bR c.cond cols zs).1 else if (bR c.cond cols zs).2.kind≠1/\(bR c.cond cols zs).2.kind≠0 then 7 else 0
def bV (c:Chk)(cols ocols:List Col)(zs:List Zone):Int:=
 if c.kind<0\/6<c.kind\/c.policy<0\/2<c.policy then 1
 else if c.policy=0/\(c.kind=5\/c.kind=6) then 7
 else if aC cols≠0 then aC cols
 else if nS c.kind=false then iN c cols ocols
 else if jy c cols zs≠0 then jy c cols zs
 else if c.kind=5/\(iT c.ln c.ld&&iT c.mn c.md)=false then 1 else 0
theorem mZ (w:World)(k:Int):Calls Tryz.prog 115 #[.int .i64 k] w λe w'=>e=.returned (.bool (fG k))/\Below w.heap.size w w':=by
 rw[fG];cases h3:(k==3)
 ·go_enter Tryz.func115,Tryz.ntmps115;go_wp2;go_ret;exact ⟨ay (by simp),Below.refl _ _⟩
 ·go_enter Tryz.func115,Tryz.ntmps115;go_wp2;go_ret;exact ⟨ay (by simp),Below.refl _ _⟩
theorem DZ (w:World)(k:Int):Calls Tryz.prog 144 #[.int .i64 k] w λe w'=>e=.returned (.bool (nS k))/\Below w.heap.size w w':=by
 rw[nS];cases h3:(k==4)
 ·go_enter Tryz.func144,Tryz.ntmps144;go_wp2;go_ret;exact ⟨ay (by simp),Below.refl _ _⟩
 ·go_enter Tryz.func144,Tryz.ntmps144;go_wp2;go_ret;exact ⟨ay (by simp),Below.refl _ _⟩
def iQ (n d:Int):Bool:=aV n&&(decide (1<=d)&&decide (d<=1073741824))
theorem yG (w:World)(n d:Int):Calls Tryz.prog 213 #[.agg #[.int .i64 n,.int .i64 d]] w λe w'=>e=.returned (.bool (iQ n d))/\Below w.heap.size w w':=by
 rw[iQ];cases hs:aV n
 ·go_enter Tryz.func213,Tryz.ntmps213;go_wp2_with fail;refine (mW n _).mono ?_;rintro e w2 ⟨rfl,rfl⟩;rw[hs];go_wp2;go_ret;exact ⟨ay (by simp),ae⟩
 ·by_cases h1:1<=d
  ·by_cases h2:d<=1073741824
   ·go_enter Tryz.func213,Tryz.ntmps213;go_wp2_with fail;refine (mW n _).mono ?_;rintro e w2 ⟨rfl,rfl⟩;rw[hs];go_wp2;go_ret;exact ⟨ay (by simp[h1,h2]),ae⟩
   ·go_enter Tryz.func213,Tryz.ntmps213;go_wp2_with fail;refine (mW n _).mono ?_;rintro e w2 ⟨rfl,rfl⟩;rw[hs];go_wp2;go_ret;exact ⟨ay (by simp[h1,h2]),ae⟩
  ·go_enter Tryz.func213,Tryz.ntmps213;go_wp2_with fail;refine (mW n _).mono ?_;rintro e w2 ⟨rfl,rfl⟩;rw[hs];go_wp2;go_ret;exact ⟨ay (by simp;omega),ae⟩
theorem AU {n d:Int}(h:iQ n d=true):(-1073741824<=n/\n<=1073741824)/\1<=d/\d<=1073741824:=by
 rw[iQ,aV]at h;simp at h;exact ⟨h.1,h.2⟩
theorem Bu (w:World)(n d:Int):Calls Tryz.prog 186 #[.agg #[.int .i64 n,.int .i64 d]] w
  λe w'=>(∃a b:Int,e=.returned (.tuple #[.agg #[.int .i64 a,.int .i64 b],.bool (iQ n d)]))/\Below w.heap.size w w':=by
 obtain ⟨F,hF⟩: ∃F,iQ n d=F:=⟨_,rfl⟩;have HF:=hide hF;rw[hF];clear hF;go_enter Tryz.func186,Tryz.ntmps186;go_wp2_with fail;refine (yG _ n d).mono ?_;rintro e w1 ⟨rfl,hb1⟩;rw[HF.out];have hbb:=aa below_alloc2 hb1;have g0:=aj (b:=w.heap.size) (o:=0) (v:=.int .i64 n) hb1 (by simp;omega) (by simp[go_sem]);have g1:=aj (b:=w.heap.size) (o:=1) (v:=.int .i64 d) hb1 (by simp;omega) (by simp[go_sem]);have r0:=aj (b:=w.heap.size+1) (o:=0) (v:=.int .i64 0) hb1 (by simp) (by simp[go_sem]);have r1:=aj (b:=w.heap.size+1) (o:=1) (v:=.int .i64 0) hb1 (by simp) (by simp[go_sem]);have t1:bF w1 (w.heap.size+1) 46 2:=by
  have h:=(bF.made (w.alloc (.cells #[.int .i64 n,.int .i64 d] 46)) #[.int .i64 0,.int .i64 0] 46 2 rfl).below hb1
  rwa [World.size_alloc]at h
 have z0:=t1.frozen 0;have z1:=t1.frozen 1;have HB1:=hide hbb;clear hb1 hbb t1;cases F
 ·go_wp2;refine bodyPost_ret (v:=.tuple #[.agg #[.int .i64 0,.int .i64 0],.bool false]) (by simp[results,Tryz.results186,go_sem,r0,r1]) rfl ⟨⟨0,0,rfl⟩,(HB1.out.setCell (Nat.le_succ _) _).setCell (Nat.le_succ _) _⟩
 ·obtain ⟨⟨n1,n2⟩,d1,d2⟩:=AU HF.out;have WK:IntKind.i64.wrap (-n)= -n:=IntWalk.i64_in _ (by omega);go_wp2;go_region_held3 (λV=>V.cell? ⟨w.heap.size,0,none⟩=some (.int .i64 n)/\V.cell? ⟨w.heap.size,1,none⟩=some (.int .i64 d)) (first|exact ⟨g0,g1⟩|go_keep) (fail);have ha0:0<=max n (-n):=by omega
  have ha1:max n (-n)<=1073741824:=by omega
  generalize max n (-n)=a0 at*;go_wp2;go_loopw [4,5] (λav bv wr=> ∃(a b:Int) (q:Nat),av=.int .i64 a/\bv=.int .i64 b/\0<=a/\0<=b/\a<=1073741824/\b<=1073741824/\(0<a\/0<b)/\wr=w1.drewN q) (λ_ bv _=>(RowKit.intOf bv).toNat)
  case atStart=>exact ⟨a0,d,1,rfl,rfl,ha0,by omega,ha1,d2,.inr (by omega),rfl⟩
  case round=>
   obtain ⟨a,b,q,rfl,rfl,a1,b1,a2,b2,hab,rfl⟩:=hrel;by_cases hb0:b=0
   ·subst hb0;have hap:¬a=0:=by omega
    have hq:(a==0)=false:=by simpa using hap
    have e0:(w1.drewN q).cell? ⟨w.heap.size,0,none⟩=some (.int .i64 n):=g0;have e1:(w1.drewN q).cell? ⟨w.heap.size,1,none⟩=some (.int .i64 d):=g1;have s0:(w1.drewN q).cell? ⟨w.heap.size+1,0,none⟩=some (.int .i64 0):=r0;have s1:(w1.drewN q).cell? ⟨w.heap.size+1,1,none⟩=some (.int .i64 0):=r1;have y0:(w1.drewN q).frozen? ⟨w.heap.size+1,0,none⟩=false:=z0;have y1:(w1.drewN q).frozen? ⟨w.heap.size+1,1,none⟩=false:=z1;go_wp2;have hb1: ∀m:Int, -1073741824<=m->m<=1073741824-> -1073741824<=m.tdiv a/\m.tdiv a<=1073741824:=λm m1 m2=>by
     have h1:(m.tdiv a).natAbs<=m.natAbs:=by rw[Int.natAbs_tdiv];exact Nat.div_le_self _ _
     omega
    obtain ⟨q1,q2⟩:=hb1 n n1 n2;obtain ⟨q3,q4⟩:=hb1 d (by omega) d2;have k1:IntKind.i64.wrap (n.tdiv a)=n.tdiv a:=IntWalk.i64_in _ (by omega);have k2:IntKind.i64.wrap (d.tdiv a)=d.tdiv a:=IntWalk.i64_in _ (by omega);go_region_held3 (λV=>V.cell? ⟨w.heap.size,0,none⟩=some (.int .i64 n)/\V.cell? ⟨w.heap.size,1,none⟩=some (.int .i64 d)) (first|exact ⟨e0,e1⟩|exact ⟨af (af e0 (.inl (by omega))) (.inl (by omega)),af (af e1 (.inl (by omega))) (.inl (by omega))⟩|go_keep) (fail);have c0:=af (b':=w.heap.size+1) (o':=1) (v:=.int .i64 (d.tdiv a)) (bK (v:=.int .i64 (n.tdiv a)) (show (w1.drewN (q+1)).cell? ⟨w.heap.size+1,0,none⟩=some (.int .i64 0) from r0)) (.inr (by omega));have c1:=bK (v:=.int .i64 (d.tdiv a)) (af (b':=w.heap.size+1) (o':=0) (v:=.int .i64 (n.tdiv a)) (show (w1.drewN (q+1)).cell? ⟨w.heap.size+1,1,none⟩=some (.int .i64 0) from r1) (.inr (by omega)));go_wp2;refine bodyPost_ret (v:=.tuple #[.agg #[.int .i64 (n.tdiv a),.int .i64 (d.tdiv a)],.bool true]) (by simp[results,Tryz.results186,go_sem,c0,c1]) rfl ⟨⟨_,_,rfl⟩,((eQ HB1.out).setCell (Nat.le_succ _) _).setCell (Nat.le_succ _) _⟩
   ·have hq:(b != 0)=true:=by simpa using hb0
    have hr0:0<=a % b:=Int.emod_nonneg _ hb0;have hr1:a % b<b:=Int.emod_lt_of_pos _ (by omega);go_wp2;go_quiet (fail);go_wp2;go_roundw
    case rel=>exact ⟨b,a % b,q+nq,rfl,by first|rfl|(rw[Int.tmod_eq_emod_of_nonneg a1]),b1,hr0,b2,by omega,.inl (by omega),by first|exact World.drewN_drewN|(rw[World.drewN_drewN])⟩
    case measure=>simp[RowKit.intOf];omega
theorem uu (n d:Int):iT n d=(iQ n d&&decide (0<=n)):=by
 rw[iT,iQ,aV];by_cases h:0<=n
 ·have h2: -1073741824<=n:=by omega
  simp[h,h2]
 ·simp[h]
theorem wH (w:World)(n d:Int):Calls Tryz.prog 147 #[.agg #[.int .i64 n,.int .i64 d]] w
  λe w'=>e=.returned (.bool (iT n d))/\Below w.heap.size w w':=by
 rw[uu];obtain ⟨F,hF⟩: ∃F,iQ n d=F:=⟨_,rfl⟩;have hR:=λW=>Bu W n d;rw[hF]at hR⊢;clear hF;have HR:=hide hR;clear hR;by_cases h0:0<=n
 ·go_enter Tryz.func147,Tryz.ntmps147;go_wp2_with fail;refine (HR.out _).mono ?_;rintro e w1 ⟨⟨a,b,rfl⟩,hb1⟩;have hbb:=aa ae hb1;have g0:=aj (b:=w.heap.size) (o:=0) (v:=.int .i64 n) hb1 (by simp) (by simp[go_sem]);have HB1:=hide (hbb.alloc hbb.size (.cells #[.int .i64 a,.int .i64 b] 46));have g1:(w1.alloc (.cells #[.int .i64 a,.int .i64 b] 46)).cell? ⟨w.heap.size,0,none⟩=some (.int .i64 n):=aj ae (lt_of_cell g0) g0;have L0:=lt_of_cell g0;clear hb1 hbb;cases F
  ·go_wp2;go_ret;exact ⟨ay (by simp),HB1.out⟩
  ·go_wp2;go_ret;exact ⟨ay (by simp[h0]),HB1.out⟩
 ·go_enter Tryz.func147,Tryz.ntmps147;go_wp2_with fail;refine (HR.out _).mono ?_;rintro e w1 ⟨⟨a,b,rfl⟩,hb1⟩;have hbb:=aa ae hb1;have g0:=aj (b:=w.heap.size) (o:=0) (v:=.int .i64 n) hb1 (by simp) (by simp[go_sem]);have HB1:=hide (hbb.alloc hbb.size (.cells #[.int .i64 a,.int .i64 b] 46));have g1:(w1.alloc (.cells #[.int .i64 a,.int .i64 b] 46)).cell? ⟨w.heap.size,0,none⟩=some (.int .i64 n):=aj ae (lt_of_cell g0) g0;have L0:=lt_of_cell g0;clear hb1 hbb;cases F
  ·go_wp2;go_ret;exact ⟨ay (by simp),HB1.out⟩
  ·go_wp2;go_ret;exact ⟨ay (by simp[h0]),HB1.out⟩
theorem jK (w:World)(x:Chk)(A:Option Addr)(n c:Nat)(A':Option Addr)(n' c':Nat)(bX:Option Addr)(n'' c'':Nat)(rn:ByteArray)(A1:Option Addr)(n1 c1:Nat)(Ak:Option Addr)(nk ck:Nat)(A3:Option Addr)(n3 c3:Nat)(on:ByteArray)(A2:Option Addr)(n2 c2:Nat)(Al:Option Addr)(nl cl:Nat)(A4:Option Addr)(n4 c4:Nat):
  ∃W,W=((w.alloc (.cells #[.string x.name,.string x.table,.int .i64 x.kind,.slice A n c,.string x.other,.slice A' n' c',.int .i64 x.low,.int .i64 x.high,.slice bX n'' c'',.int .i64 x.ln,.int .i64 x.ld,.int .i64 x.mn,.int .i64 x.md,.int .i64 x.policy] 48)).alloc (.cells #[.string rn,.slice A1 n1 c1,.slice Ak nk ck,.slice A3 n3 c3] 29)).alloc (.cells #[.string on,.slice A2 n2 c2,.slice Al nl cl,.slice A4 n4 c4] 29)/\Hid (W.heap.size=w.heap.size+1+1+1)/\Below w.heap.size w W/\Hid (∀V,Below W.heap.size W V->(w.heap.size<V.heap.size/\V.cell? ⟨w.heap.size,0,none⟩=some (.string x.name)/\V.cell? ⟨w.heap.size,1,none⟩=some (.string x.table)/\V.cell? ⟨w.heap.size,2,none⟩=some (.int .i64 x.kind)/\V.cell? ⟨w.heap.size,3,none⟩=some (.slice A n c)/\V.cell? ⟨w.heap.size,4,none⟩=some (.string x.other)/\V.cell? ⟨w.heap.size,5,none⟩=some (.slice A' n' c')/\V.cell? ⟨w.heap.size,6,none⟩=some (.int .i64 x.low)/\V.cell? ⟨w.heap.size,7,none⟩=some (.int .i64 x.high)/\V.cell? ⟨w.heap.size,8,none⟩=some (.slice bX n'' c'')/\V.cell? ⟨w.heap.size,9,none⟩=some (.int .i64 x.ln)/\V.cell? ⟨w.heap.size,10,none⟩=some (.int .i64 x.ld)/\V.cell? ⟨w.heap.size,11,none⟩=some (.int .i64 x.mn)/\V.cell? ⟨w.heap.size,12,none⟩=some (.int .i64 x.md)/\V.cell? ⟨w.heap.size,13,none⟩=some (.int .i64 x.policy))/\(w.heap.size+1<V.heap.size/\V.cell? ⟨w.heap.size+1,0,none⟩=some (.string rn)/\V.cell? ⟨w.heap.size+1,1,none⟩=some (.slice A1 n1 c1)/\V.cell? ⟨w.heap.size+1,2,none⟩=some (.slice Ak nk ck)/\V.cell? ⟨w.heap.size+1,3,none⟩=some (.slice A3 n3 c3))/\w.heap.size+1+1<V.heap.size/\V.cell? ⟨w.heap.size+1+1,0,none⟩=some (.string on)/\V.cell? ⟨w.heap.size+1+1,1,none⟩=some (.slice A2 n2 c2)/\V.cell? ⟨w.heap.size+1+1,2,none⟩=some (.slice Al nl cl)/\V.cell? ⟨w.heap.size+1+1,3,none⟩=some (.slice A4 n4 c4)):=by
 obtain ⟨W1,hW1⟩: ∃W,W=w.alloc (.cells #[.string x.name,.string x.table,.int .i64 x.kind,.slice A n c,.string x.other,.slice A' n' c',.int .i64 x.low,.int .i64 x.high,.slice bX n'' c'',.int .i64 x.ln,.int .i64 x.ld,.int .i64 x.mn,.int .i64 x.md,.int .i64 x.policy] 48):=⟨_,rfl⟩;obtain ⟨hb1,S1,g0,g1,g2,g3,g4,g5,g6,g7,g8,g9,g10,g11,g12,g13⟩:=dn hW1 rfl;obtain ⟨W2,hW2⟩: ∃W,W=W1.alloc (.cells #[.string rn,.slice A1 n1 c1,.slice Ak nk ck,.slice A3 n3 c3] 29):=⟨_,rfl⟩;obtain ⟨hb2,S2,r0,r1,r2,r3⟩:=jN (b:=w.heap.size+1) hW2 (by rw[S1.out]);obtain ⟨W3,hW3⟩: ∃W,W=W2.alloc (.cells #[.string on,.slice A2 n2 c2,.slice Al nl cl,.slice A4 n4 c4] 29):=⟨_,rfl⟩;obtain ⟨hb3,S3,s0,s1,s2,s3⟩:=jN (b:=w.heap.size+1+1) hW3 (by rw[S2.out,S1.out]);refine ⟨W3,by rw[hW3,hW2,hW1],by rw[Hid,S3.out,S2.out,S1.out],aa (aa hb1 hb2) hb3,λV hV=>?_⟩;have a:=(nK g0 g1 g2 g3 g4 g5 g6 g7 g8 g9 g10 g11 g12 g13).out V (aa (aa hb2 hb3) hV);have b:=(rJ r0 r1 r2 r3).out V (aa hb3 hV);exact ⟨a,b,(rJ s0 s1 s2 s3).out V hV⟩
end Go.Proofs.YtopjjlmfilgngaaGreatDoor
