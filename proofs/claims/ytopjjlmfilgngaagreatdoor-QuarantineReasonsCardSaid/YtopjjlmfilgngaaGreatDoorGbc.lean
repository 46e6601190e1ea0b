/-
  expr.Columns: the columns that an expression names, ascending, each once. (Printed by gen_cle.py; the layings are the kit's lay-plain.mjs's, numbers turned to names.) warehouseref8.Add, Columns; warehouseref28.Looks. (Printed by gen_clr.py.)
-/
import Derived.Shelf.Slices.CompactS
import Derived.Lib.OwnBridge
import Derived.Test.YtopjjlmfilgngaaGreatDoorGbb
namespace Go.Proofs.YtopjjlmfilgngaaGreatDoor
set_option maxHeartbeats 4000000
set_option maxRecDepth 100000
open Go.RowKit Go.Sort Go.Shelf
set_option linter.unusedSimpArgs false
set_option linter.unusedVariables false
def Ez:Go.Shelf.Ren:=⟨λ| 6=>106| 8=>137| 9=>138| 19=>170| 20=>171| 21=>172| 22=>173| 23=>174| 24=>175| 25=>176| 26=>177| 27=>178| 28=>179| 29=>180| 36=>207| 31=>203| 32=>204| 37=>208| 38=>209| 39=>112| 41=>232|n=>n,λ| 27=>43| 29=>9| 3=>3| 32=>160| 26=>43| 0=>0| 44=>204| 46=>206| 4=>4| 36=>198| 35=>197| 41=>188| 5=>5| 9=>9| 53=>232| 57=>236| 63=>251| 64=>252|n=>n,λ|n=>n⟩
theorem H6:Go.Proofs.SlLaysM.n6 Tryz.prog Ez:={
 mixed:=by kernel_rfl
 f6:=⟨Tryz.f106.name,by decide,Tryz.func106.trans (congrArg some (by kernel_rfl))⟩
 f8:=Tryz.func137.trans (congrArg some (by kernel_rfl))
 f9:=⟨Tryz.f138.name,by decide,Tryz.func138.trans (congrArg some (by kernel_rfl))⟩
 f19:=Tryz.func170.trans (congrArg some (by kernel_rfl))
 f20:=Tryz.func171.trans (congrArg some (by kernel_rfl))
 f21:=⟨Tryz.f172.name,by decide,Tryz.func172.trans (congrArg some (by kernel_rfl))⟩
 f22:=⟨Tryz.f173.name,by decide,Tryz.func173.trans (congrArg some (by kernel_rfl))⟩
 f23:=⟨Tryz.f174.name,by decide,Tryz.func174.trans (congrArg some (by kernel_rfl))⟩
 f24:=⟨Tryz.f175.name,by decide,Tryz.func175.trans (congrArg some (by kernel_rfl))⟩
 f25:=⟨Tryz.f176.name,by decide,Tryz.func176.trans (congrArg some (by kernel_rfl))⟩
 f26:=⟨Tryz.f177.name,by decide,Tryz.func177.trans (congrArg some (by kernel_rfl))⟩
 f27:=⟨Tryz.f178.name,by decide,Tryz.func178.trans (congrArg some (by kernel_rfl))⟩
 f28:=⟨Tryz.f179.name,by decide,Tryz.func179.trans (congrArg some (by kernel_rfl))⟩
 f29:=⟨Tryz.f180.name,by decide,Tryz.func180.trans (congrArg some (by kernel_rfl))⟩
 f31:=Tryz.func203.trans (congrArg some (by kernel_rfl))
 f32:=Tryz.func204.trans (congrArg some (by kernel_rfl))
 f36:=⟨Tryz.f207.name,by decide,Tryz.func207.trans (congrArg some (by kernel_rfl))⟩
 f37:=⟨Tryz.f208.name,by decide,Tryz.func208.trans (congrArg some (by kernel_rfl))⟩
 f38:=⟨Tryz.f209.name,by decide,Tryz.func209.trans (congrArg some (by kernel_rfl))⟩
 f39:=⟨Tryz.f112.name,by decide,Tryz.func112.trans (congrArg some (by kernel_rfl))⟩
 f41:=⟨Tryz.f232.name,by decide,Tryz.func232.trans (congrArg some (by kernel_rfl))⟩
 t0:=Tryz.underlying0
 a0:=Tryz.isAgg0
 z0:=Tryz.sizeOf0
 v0:=Tryz.zeroValue0
 t3:=Tryz.underlying3
 a3:=Tryz.isAgg3
 z3:=Tryz.sizeOf3
 v3:=Tryz.zeroValue3
 t4:=Tryz.underlying4
 a4:=Tryz.isAgg4
 z4:=Tryz.sizeOf4
 v4:=Tryz.zeroValue4
 t5:=Tryz.underlying5
 a5:=Tryz.isAgg5
 z5:=Tryz.sizeOf5
 v5:=Tryz.zeroValue5
 t9:=Tryz.underlying9
 a9:=Tryz.isAgg9
 z9:=Tryz.sizeOf9
 v9:=Tryz.zeroValue9
 t26:=Tryz.underlying43
 a26:=Tryz.isAgg43
 z26:=Tryz.sizeOf43
 v26:=Tryz.zeroValue43
 t27:=Tryz.underlying43
 a27:=Tryz.isAgg43
 z27:=Tryz.sizeOf43
 v27:=Tryz.zeroValue43
 t29:=Tryz.underlying9
 a29:=Tryz.isAgg9
 z29:=Tryz.sizeOf9
 v29:=Tryz.zeroValue9
 t32:=Tryz.underlying160
 a32:=Tryz.isAgg160
 z32:=Tryz.sizeOf160
 v32:=Tryz.zeroValue160
 t35:=Tryz.underlying197
 a35:=Tryz.isAgg197
 z35:=Tryz.sizeOf197
 v35:=Tryz.zeroValue197
 t36:=Tryz.underlying198
 a36:=Tryz.isAgg198
 z36:=Tryz.sizeOf198
 v36:=Tryz.zeroValue198
 t41:=Tryz.underlying188
 a41:=Tryz.isAgg188
 z41:=Tryz.sizeOf188
 v41:=Tryz.zeroValue188
 t44:=Tryz.underlying204
 a44:=Tryz.isAgg204
 z44:=Tryz.sizeOf204
 v44:=Tryz.zeroValue204
 t46:=Tryz.underlying206
 a46:=Tryz.isAgg206
 z46:=Tryz.sizeOf206
 v46:=Tryz.zeroValue206
 t53:=Tryz.underlying232
 a53:=Tryz.isAgg232
 z53:=Tryz.sizeOf232
 v53:=Tryz.zeroValue232
 t57:=Tryz.underlying236
 a57:=Tryz.isAgg236
 z57:=Tryz.sizeOf236
 v57:=Tryz.zeroValue236
 t63:=Tryz.underlying251
 a63:=Tryz.isAgg251
 z63:=Tryz.sizeOf251
 v63:=Tryz.zeroValue251
 t64:=Tryz.underlying252
 a64:=Tryz.isAgg252
 z64:=Tryz.sizeOf252
 v64:=Tryz.zeroValue252}
def Ey:Go.Shelf.Ren:=⟨λ| 194=>107|n=>n,λ| 31=>43| 9=>9| 3=>3| 4=>4| 0=>0|n=>n,λ|n=>n⟩
theorem Hz:Go.Proofs.Lays.n194 Tryz.prog Ey:={
 mixed:=by kernel_rfl
 f194:=Tryz.func107.trans (congrArg some (by kernel_rfl))
 t0:=Tryz.underlying0
 a0:=Tryz.isAgg0
 z0:=Tryz.sizeOf0
 v0:=Tryz.zeroValue0
 t3:=Tryz.underlying3
 a3:=Tryz.isAgg3
 z3:=Tryz.sizeOf3
 v3:=Tryz.zeroValue3
 t4:=Tryz.underlying4
 a4:=Tryz.isAgg4
 z4:=Tryz.sizeOf4
 v4:=Tryz.zeroValue4
 t9:=Tryz.underlying9
 a9:=Tryz.isAgg9
 z9:=Tryz.sizeOf9
 v9:=Tryz.zeroValue9
 t31:=Tryz.underlying43
 a31:=Tryz.isAgg43
 z31:=Tryz.sizeOf43
 v31:=Tryz.zeroValue43}
def uT (x:ByteArray):List UInt8:=x.data.toList
def N9 (l:List UInt8):ByteArray:=⟨l.toArray⟩
theorem NL (x:ByteArray):N9 (uT x)=x:=by cases x;rfl
def qm (e:List Node):List ByteArray:=(e.filter λn=>n.op==1).map Node.name
def zG (l:List (List UInt8)):List (List UInt8):=Lib.compact (l.mergeSort λx y=>decide (x<=y))
def qX (e:List Node):List ByteArray:=(zG ((qm e).map uT)).map N9
theorem yA (e:List Node):(qm e).length<=e.length:=by rw[qm,List.length_map];exact List.length_filter_le _ _
theorem Kl (e:List Node):(qX e).length<=e.length:=by
 rw[qX,List.length_map,zG];refine Nat.le_trans (Lib.compact_length_le _) ?_;rw[List.length_mergeSort,List.length_map];exact yA e
theorem Kq {l:List (List UInt8)}: ∀x∈Lib.compact l,x∈l:=λx h=>by
 rw[Lib.compact,Lib.compactUpTo]at h;obtain⟨j,a,rfl⟩:=List.mem_map.1 h;have a:=List.mem_range.1 (List.mem_filter.1 a).1;simp[a]
theorem LB {l:List (List UInt8)}: ∀x∈zG l,x∈l:=λx h=>List.mem_mergeSort.1 (Kq x h)
theorem BX (l:List Node)(y:Node):qm (l++[y])=qm l++(if y.op=1 then [y.name] else []):=by
 rw[qm,List.filter_append,List.map_append,<-qm]
 congr 1
 by_cases h:y.op=1
 ·rw[if_pos h];simp[h]
 ·rw[if_neg h];simp[h]
theorem yO {w:World}{S:Nat->Prop}: ∀{xs:List ByteArray} {a:List Value},Cells w S a xs->a=(xs.map uT).map encStr/\ ∀x∈xs,Str x
 | [],a,h=>⟨h,by simp⟩
 |x::xs,a,⟨c0,c1,e,h0,h1⟩=>by
  obtain⟨c,d⟩:=yO h1;refine⟨?_,λy b=>?_⟩
  ·rw[e,h0.1,c];simp[encStr,uT]
  ·rcases List.mem_cons.1 b with rfl|b
   ·exact h0.2
   ·exact d y b
theorem K9 {w:World}{g k cap:Nat}{D:Array (List UInt8)}{l:List (List UInt8)}(f:Holds encStr w g 0 D)(n:g<w.heap.size)(q:l.length=k)(p:k<=cap)(m:cap<=maxLen)(r: ∀i (h:i<l.length),i<D.size/\D[i]! =l[i])(hs: ∀x∈l,Str (N9 x)):In w (some ⟨g,0,none⟩) k cap (l.map N9):=by
 refine⟨by rw[List.length_map,q],p,by unfold maxLen at m;omega,(λh=>by cases h),λs=>⟨g,0,rfl,n,λi hi=>?_⟩⟩;have b:i<l.length:=by simpa using hi
 obtain⟨c,d⟩:=r i b;have e:=hs l[i] (List.getElem_mem b);refine⟨[.string (N9 l[i])],⟨by simp,by simpa[Str] using e⟩,λj o=>?_⟩;obtain rfl:j=0:=by simpa using o
 have a:=(f i c).1;rw[d]at a;simpa[encStr,N9,Rep.size] using a
theorem JD (I:World)(B:Nat)(W:World)(v:Value)(xs:List ByteArray)(h:OL 9 B (λ_=>False) [] W v xs)(hb:Below B I W)(S:xs.length<4611686018427387904):
  Calls Tryz.prog 106 #[v] W λe J=>e=.returned (.tuple #[])/\Calls Tryz.prog 107 #[v] J λr s=>(∃A c,r=.returned (.slice A (zG (xs.map uT)).length c)/\In s A (zG (xs.map uT)).length c ((zG (xs.map uT)).map N9))/\Below B I s:=by
 obtain⟨X,L,N⟩:=h.own;obtain⟨rfl,R⟩:=yO N;by_cases H:xs.length=0
 ·obtain rfl:xs=[]:=List.eq_nil_of_length_eq_zero H;obtain⟨A,c,rfl⟩:=h.form;obtain⟨A2,c2,k,hi⟩:=h.inn;injection k with q1 q2 q3;subst q1 q3;refine(AnyM.slices_Sort_string_none H6 A c W).mono ?_;rintro e w' ⟨rfl,rfl⟩;refine⟨rfl,(Any.slices_Compact_string_empty Hz A c w').mono ?_⟩;rintro e s ⟨rfl,rfl⟩;have K:zG ([].map uT)=[]:=by
   apply List.eq_nil_of_length_eq_zero;have h:=Lib.compact_length_le (([].map uT).mergeSort λx y=>decide (x<=y));rw[List.length_mergeSort]at h;exact Nat.le_zero.1 h
  rw[K];exact⟨⟨A,c,rfl,hi⟩,hb⟩
 ·have T:v≠.slice none 0 0:=λe=>by
   obtain⟨A,c,k⟩:=h.form;rw[k]at e;injection e with _ q _;exact H q
  have p:xs.length=((xs.map uT)).length:=by simp
  have M:W.ownsRow B 9 1 v (xs.map uT).length ((xs.map uT).map encStr):=by rw[<-p];exact L
  obtain⟨g,cap,rfl,m,f,G,P,Y,t⟩:=Lib.holds_of_ownsRow M T;refine(AnyM.slices_Sort_string H6 g 0 cap (xs.map uT) W t f (by rw[<-p];exact S)).mono ?_;rintro e J ⟨rfl,n,d,rfl⟩;have b:((xs.map uT).mergeSort λx y=>decide (x<=y)).length=(xs.map uT).length:=List.length_mergeSort _;have l:Holds encStr (grow (putRow encStr (Sort.ahead W n) g 0 ((xs.map uT).mergeSort λx y=>decide (x<=y)).toArray) d) g 0 ((xs.map uT).mergeSort λx y=>decide (x<=y)).toArray:=
   holds_grow encStr _ d g 0 _ (by simpa[putRow,mapBlock,Sort.ahead] using f) (holds_putRow encStr _ g 0 _ _ (holds_ahead encStr W n g 0 _ t) (by simp))
  have o:=grownBy_sorted (w:=W) (g:=g) (n:=n) (os:=d) ((xs.map uT).mergeSort λx y=>decide (x<=y)).toArray;have D:=Nat.lt_of_lt_of_le f o.size;have z:=hb.grown o (Nat.le_trans m (Nat.le_of_lt f)) (λj Q=>by cases Q;exact m);obtain⟨a,u⟩: ∃a,a=grow (putRow encStr (Sort.ahead W n) g 0 ((xs.map uT).mergeSort λx y=>decide (x<=y)).toArray) d:=⟨_,rfl⟩;rw[<-u]at l D z⊢;clear u o;have C:=Any.slices_Compact_string Hz g 0 cap ((xs.map uT).mergeSort λx y=>decide (x<=y)) a l (by rw[b,<-p];omega) (by rw[b];exact G);rw[b]at C;refine⟨rfl,C.mono ?_⟩;rintro r Z ⟨rfl,q,rfl⟩;have F:=Lib.compact_length_le ((xs.map uT).mergeSort λx y=>decide (x<=y));rw[b]at F;have O:Holds encStr (putRow encStr (Sort.ahead a q) g 0 (Lib.compact ((xs.map uT).mergeSort λx y=>decide (x<=y))++List.replicate ((xs.map uT).length-(Lib.compact ((xs.map uT).mergeSort λx y=>decide (x<=y))).length) []).toArray) g 0 (Lib.compact ((xs.map uT).mergeSort λx y=>decide (x<=y))++List.replicate ((xs.map uT).length-(Lib.compact ((xs.map uT).mergeSort λx y=>decide (x<=y))).length) []).toArray:=
   holds_putRow encStr _ g 0 _ _ (holds_ahead encStr a q g 0 _ l) (by rw[List.size_toArray,List.size_toArray,List.length_append,List.length_replicate,b];omega)
  refine⟨⟨_,cap,rfl,K9 O (by simpa using D) rfl (Nat.le_trans F G) P (λi hi=>?_) (λx U=>?_)⟩,Lib.below_putRow z m⟩
  ·have E:i<(Lib.compact ((xs.map uT).mergeSort λx y=>decide (x<=y))).length:=hi;refine⟨by simp;omega,?_⟩;simp[List.getElem?_append_left E,zG,E]
  ·obtain⟨y,V,rfl⟩:=List.mem_map.1 (LB x U);rw[NL];exact R y V
theorem FM (w:World)(A:Option Addr)(n c:Nat)(e:List Node)(g:In w A n c e)(hn:n<=4096):
  Calls Tryz.prog 78 #[.slice A n c] w λr w'=>(∃A' c',r=.returned (.slice A' (qX e).length c')/\In w' A' (qX e).length c' (qX e))/\Below w.heap.size w w':=by
 have E:(qX e).length=(zG ((qm e).map uT)).length:=by rw[qX,List.length_map]
 have B:=Hm E;have P:=Hm (show qX e=(zG ((qm e).map uT)).map N9 from rfl);have ak:=g.le;have C:=Hm g.len;clear E;go_enter Tryz.func78,Tryz.ntmps78;have Q:=Hm g;clear g;go_wp2;go_loopg [3,8] n (λleft v i wr=> ∃k:Nat,k+left=n/\i=.int .i64 k/\OL 9 w.heap.size (λ_=>False) [] wr v (qm (e.take k))/\Below w.heap.size w wr)
 case atStart=>exact⟨0,by omega,rfl,by simpa[qm] using OL.nil (α:=ByteArray) (e:=9) (O:=λ_=>False) (T:=[]) (Nat.le_refl w.heap.size),Below.refl _ _⟩
 case round=>
  obtain⟨k,hk,rfl,I,hb⟩:=hrel;have a:=Hm I;clear I;have s:=Hm hb;clear hb;have M:=Hm s.o;by_cases ah:k<n
  ·obtain⟨b,off,x,rfl,al,Z,f0,f1,f2,f3,f4,f5,J⟩:=(Q.o.below s.o).node ah;have j0:(0:Int)<=(k:Int):=by omega
   have j1:(k:Int)<(n:Int):=by omega
   have aa:=Hm J;have f:=Hm (BX (e.take k) x);rw[<-ic Z.o]at f;have q:Hl ((qm (e.take k)).length<=4096):=Hm (Nat.le_trans (yA _) (by rw[List.length_take];omega));obtain⟨j,K⟩: ∃l,qm (e.take k)=l:=⟨_,rfl⟩;rw[K]at a f q;clear J K;go_upto_region 5 with (fail);obtain⟨t,u⟩: ∃W,W=wr.alloc (.cells #[.int .i64 x.op,.int .i64 x.value.kind,.int .i64 x.value.num,.string x.value.str,.string x.name,.int .i64 x.arity] 89):=⟨_,rfl⟩;obtain⟨y,aj,x0,x1,x2,x3,x4,x5⟩:=Oi u rfl;rw[<-u];clear u;have ab:=Hm y;have ac:=Hm (fH s.o y);clear y;have ai:=lt_of_cell x0;have D:=Hm (a.o.below ab.o);have z:=Hm ac.o;clear a;by_cases h:x.op=1
   ·have q1:(x.op==1)=true:=by simpa using h
    have p:Hl (qm (e.take (k+1))=j++[x.name]):=Hm (by rw[f.o,if_pos h]);have af:j.length+1<=maxLen:=by have:=q.o;simp only[maxLen];omega
    have ag:(j.length+1)*16<=140737488355328:=by have:=q.o;omega
    have U:Hl (Rep.rd t (BS w.heap.size (λ_=>False) [] t) [.string x.name] x.name):=Hm ⟨rfl,aa.o.2.2.1⟩;go_wp2_with (at_builtin;refine gY _ rfl _ _ _ rfl mq (by simp) t _ rfl D.o rfl rfl x.name U.o af ag ?_;intro v9 w9 H d ae ad);all_goals(try(exfalso;go_light;simp_all;done));have S:=Hm H;have m:=Hm (z.o.trans d);clear H d ae ad;go_wp2;all_goals(try(exfalso;go_light;simp_all;done));go_roundg (gk-1)
    case measure=>omega
    case rel=>exact⟨k+1,by omega,by go_num,by rw[p.o];exact S.o,m.o⟩
   ·have q1:(x.op==1)=false:=by simpa using h
    have p:Hl (qm (e.take (k+1))=j):=Hm (by rw[f.o,if_neg h,List.append_nil]);go_wp2;all_goals(try(exfalso;go_light;simp_all;done));go_roundg (gk-1)
    case measure=>omega
    case rel=>exact⟨k+1,by omega,by go_num,by rw[p.o];exact D.o,z.o⟩
  ·have Y:Hl (qm (e.take k)=qm e):=Hm (by rw[List.take_of_length_le (by rw[C.o];omega)]);rw[Y.o]at a;have X:Hl ((qm e).length<4611686018427387904):=Hm (by have h1:=yA e;have h2:=C.o;omega);have jn:¬(k:Int)<(n:Int):=by omega
   have V:=Hm (JD w w.heap.size wr _ (qm e) a.o M.o X.o);go_wp2_with fail;refine V.o.mono ?_;rintro r w1 ⟨rfl,F⟩;have N:=Hm F;clear F;go_wp2_with fail;refine N.o.mono ?_;rintro r w2 ⟨⟨L,c9,rfl,G⟩,d⟩;have R:=Hm G;have m:=Hm d;clear G d;go_wp2;go_ret;exact⟨⟨L,c9,by rw[B.o];rfl,by rw[B.o,P.o];exact R.o⟩,m.o⟩
open Go.RowKit Go.Maps
def vH:List ByteArray->ByteArray->Nat
 | [],_=>0
 |x::l,nm=>if Op.bytesLess x.toList nm.toList then vH l nm+1 else 0
def uS (l:List ByteArray)(nm:ByteArray):List ByteArray:=if l[vH l nm]?=some nm then l else l.take (vH l nm)++[nm]++l.drop (vH l nm)
def nU (e:List Node):List ByteArray:=(qm e).foldl uS []
theorem H8: ∀(l:List ByteArray) (nm:ByteArray),vH l nm<=l.length
 | [],_=>Nat.le_refl _
 |x::l,nm=>by
  rw[vH]
  split
  ·have:=H8 l nm;simp;omega
  ·omega
theorem MB (l:List ByteArray)(nm:ByteArray):(uS l nm).length<=l.length+1:=by
 rw[uS]
 split
 ·omega
 ·have:=H8 l nm;simp;omega
theorem J7 (w:World)(A:Option Addr)(n c:Nat)(l:List ByteArray)(nm:ByteArray)(h:In w A n c l)(hs:Str nm)(hn:n<=4096):
  Calls Tryz.prog 142 #[.slice A n c,.string nm] w λr w'=>(∃A' c',r=.returned (.slice A' (uS l nm).length c')/\In w' A' (uS l nm).length c' (uS l nm))/\Below w.heap.size w w':=by
 have aC:=h.le;have m:=Hm h.len;have av:=Hm (show vH l nm=0+vH (l.drop 0) nm from by simp);go_enter Tryz.func142,Tryz.ntmps142;have d:=Hm h;clear h;go_wp2
 go_loop [5] (λi=> ∃k:Nat,k<=n/\i=.int .i64 k/\vH l nm=k+vH (l.drop k) nm) (λi=>n-(RowKit.intOf i).toNat)
 case atStart=>exact⟨0,Nat.zero_le _,rfl,av.o⟩
 case round=>
  obtain⟨k,s,rfl,aw⟩:=hrel;have S:=Hm aw;clear aw av;by_cases aB:k<n
  ·obtain⟨b,off,x,rfl,aD,HX,f0,hx⟩:=d.o.str aB;have j0:(0:Int)<=(k:Int):=by omega
   have j1:(k:Int)<(n:Int):=by omega
   cases ax:Op.bytesLess x.toList nm.toList;rotate_left
   ·go_wp2;all_goals(try(exfalso;go_light;simp_all;done))
    go_round
    case rel=>exact⟨k+1,by omega,by go_num,by rw[S.o,HX.o,vH,if_pos ax];omega⟩
    case measure=>simp[RowKit.intOf];omega
   ·have L:Hl (vH l nm=k):=Hm (by rw[S.o,HX.o,vH,if_neg (by rw[ax];simp),Nat.add_zero]);have K:Hl (l[k]?=some x):=Hm ((iR HX.o).1);by_cases hq:x=nm
    ·subst hq;have j:Hl (uS l x=l):=Hm (by rw[uS,L.o,if_pos K.o]);go_wp2;all_goals(try(exfalso;go_light;simp_all;done));go_ret;exact⟨⟨_,_,by rw[j.o,m.o];rfl,by rw[j.o,m.o];exact d.o⟩,Below.refl _ _⟩
    ·have ay:=Hm hq;have aE:(x.toList==nm.toList)=false:=by
      apply Bool.eq_false_iff.2;intro h;exact hq (ba_eq (by simpa using h))
     obtain⟨af,C,I⟩:=Sl.cells (Sl.take d.o (k:=k) s);have Q:=Hm (C.mono λz q=>(show BS w.heap.size (λ_=>True) [] w z from .inl ⟨trivial,q⟩));have ad:=Hm I;have f:Hl ((l.take k).length=k):=Hm (by rw[List.length_take,m.o];omega);have aA:k<=c:=Nat.le_trans s d.o.2.1;have W:Hl (((some ⟨b,off,none⟩):Option Addr)=none->k=0):=Hm (λh=>by have h1:=d.o.2.2.2.1 h;omega);have ap:([]:List ByteArray).length+k<=maxLen:=by simp only[maxLen,List.length_nil];omega
     have aq:(([]:List ByteArray).length+k)*16<=140737488355328:=by simp only[List.length_nil];omega
     have az:=d.o.cap;clear C I;have an:(l.take k).length+1<=maxLen:=by rw[f.o];simp only[maxLen];omega
     have ao:((l.take k).length+1)*16<=140737488355328:=by rw[f.o];omega
     have V:Hl ((l.drop k).length=n-k):=Hm (by rw[List.length_drop,m.o];try omega);have J:Hl ((if c=k then((some ⟨b,off,none⟩):Option Addr) else Option.map (λx:Addr=>x.add (k*Rep.size ByteArray)) (some ⟨b,off,none⟩))=(some ⟨b,off+k,none⟩:Option Addr)):=Hm (by rw[if_neg (show ¬c=k by omega)];simp only[show Rep.size ByteArray=1 from rfl,Nat.mul_one,Option.map];by_cases e:k=0;(subst e;rfl);simp[Addr.add,e]);have X:Hl ((some ⟨b,off+k,none⟩:Option Addr)=none->n-k=0):=Hm (λh=>by
      rw[<-J.o]at h;by_cases e:c=k
      ·omega
      ·rw[if_neg e]at h;rcases hA:((some ⟨b,off,none⟩):Option Addr) with _|a
       ·have h1:=d.o.2.2.2.1 hA;omega
       ·rw[hA]at h;cases h)
     have ar:(l.take k++[nm]).length+(n-k)<=maxLen:=by rw[List.length_append,f.o];simp only[maxLen,List.length_cons,List.length_nil];omega
     have au:((l.take k++[nm]).length+(n-k))*16<=140737488355328:=by rw[List.length_append,f.o];simp only[List.length_cons,List.length_nil];omega
     have Y:Hl (n-k=n-k):=Hm (by omega);go_wp2_with (first|(at_builtin;refine jC _ rfl _ _ _ rfl mq (by simp) (OL.nil (B:=w.heap.size) (O:=λ_=>True) (T:=[]) (Nat.le_refl _)) rfl (some ⟨b,off,none⟩) k c af (l.take k) rfl W.o ad.o Q.o f.o ap aq ?_;intro v1 g F u ak ah;have Z:=Hm (show OL 9 w.heap.size (λ_=>True) [] g v1 (l.take k) from by simpa using F);have N:=Hm u;have ac:Hl (Rep.rd g (BS w.heap.size (λ_=>True) [] g) [.string nm] nm):=Hm ⟨rfl,hs⟩;clear F u ak ah)|(at_builtin;refine gY _ rfl _ _ _ rfl mq (by simp) g _ rfl Z.o rfl rfl nm ac.o an ao ?_;intro v2 w2 G v al ai;have aa:=Hm G;have t:=Hm (N.o.trans v);obtain⟨ag,D,p⟩:=Sl.cells (Sl.tail (Sl.keep (Same.below t.o) d.o) (k:=k) s);rw[J.o,Y.o]at p;have R:=Hm (D.mono λz q=>(show BS w.heap.size (λ_=>True) [] w2 z from .inl ⟨trivial,q⟩));have ae:=Hm p;clear G v al ai D p)|(at_builtin;refine jC _ rfl _ _ _ rfl mq (by simp) aa.o rfl ((some ⟨b,off+k,none⟩:Option Addr)) (n-k) (c-k) ag (l.drop k) rfl X.o ae.o R.o V.o ar au ?_;intro v3 w3 H y am aj;have ab:=Hm H;have P:=Hm (t.o.trans y);clear H y am aj));all_goals(try(exfalso;go_light;simp_all;done));all_goals(obtain⟨M,c9,rfl,E⟩:=ab.o.inn;have j:Hl (uS l nm=l.take k++[nm]++l.drop k):=Hm (by rw[uS,L.o,K.o,if_neg (λe=>ay.o (by injection e))]);have U:=Hm E;clear E;go_wp2;go_ret;exact⟨⟨M,c9,by rw[j.o];rfl,by rw[j.o];exact U.o⟩,P.o⟩)
  ·obtain rfl:k=n:=by omega
   have L:Hl (vH l nm=k):=Hm (by rw[S.o,gG m.o (by omega),vH,Nat.add_zero]);have K:Hl (l[k]?=none):=Hm (List.getElem?_eq_none (by rw[m.o];omega));have jn:¬(k:Int)<(k:Int):=by omega
   obtain⟨af,C,I⟩:=Sl.cells (Sl.take d.o (k:=k) s);have Q:=Hm (C.mono λz q=>(show BS w.heap.size (λ_=>True) [] w z from .inl ⟨trivial,q⟩));have ad:=Hm I;have f:Hl ((l.take k).length=k):=Hm (by rw[List.length_take,m.o];omega);have aA:k<=c:=Nat.le_trans s d.o.2.1;have W:Hl ((A:Option Addr)=none->k=0):=Hm (λh=>by have h1:=d.o.2.2.2.1 h;omega);have ap:([]:List ByteArray).length+k<=maxLen:=by simp only[maxLen,List.length_nil];omega
   have aq:(([]:List ByteArray).length+k)*16<=140737488355328:=by simp only[List.length_nil];omega
   have az:=d.o.cap;clear C I;have an:(l.take k).length+1<=maxLen:=by rw[f.o];simp only[maxLen];omega
   have ao:((l.take k).length+1)*16<=140737488355328:=by rw[f.o];omega
   have V:Hl ((l.drop k).length=0):=Hm (by rw[List.length_drop,m.o];try omega);have J:Hl ((if c=k then(A:Option Addr) else Option.map (λx:Addr=>x.add (k*Rep.size ByteArray)) A)=(if c=k then A else Option.map (λx:Addr=>x.add k) A)):=Hm (by simp only[show Rep.size ByteArray=1 from rfl,Nat.mul_one]);have X:Hl ((if c=k then A else Option.map (λx:Addr=>x.add k) A)=none->(0:Nat)=0):=Hm (λ_=>rfl);have ar:(l.take k++[nm]).length+(0)<=maxLen:=by rw[List.length_append,f.o];simp only[maxLen,List.length_cons,List.length_nil];omega
   have au:((l.take k++[nm]).length+(0))*16<=140737488355328:=by rw[List.length_append,f.o];simp only[List.length_cons,List.length_nil];omega
   have Y:Hl (k-k=0):=Hm (by omega);go_wp2_with (first|(at_builtin;refine jC _ rfl _ _ _ rfl mq (by simp) (OL.nil (B:=w.heap.size) (O:=λ_=>True) (T:=[]) (Nat.le_refl _)) rfl A k c af (l.take k) rfl W.o ad.o Q.o f.o ap aq ?_;intro v1 g F u ak ah;have Z:=Hm (show OL 9 w.heap.size (λ_=>True) [] g v1 (l.take k) from by simpa using F);have N:=Hm u;have ac:Hl (Rep.rd g (BS w.heap.size (λ_=>True) [] g) [.string nm] nm):=Hm ⟨rfl,hs⟩;clear F u ak ah)|(at_builtin;refine gY _ rfl _ _ _ rfl mq (by simp) g _ rfl Z.o rfl rfl nm ac.o an ao ?_;intro v2 w2 G v al ai;have aa:=Hm G;have t:=Hm (N.o.trans v);obtain⟨ag,D,p⟩:=Sl.cells (Sl.tail (Sl.keep (Same.below t.o) d.o) (k:=k) s);rw[J.o,Y.o]at p;have R:=Hm (D.mono λz q=>(show BS w.heap.size (λ_=>True) [] w2 z from .inl ⟨trivial,q⟩));have ae:=Hm p;clear G v al ai D p)|(at_builtin;refine jC _ rfl _ _ _ rfl mq (by simp) aa.o rfl ((if c=k then A else Option.map (λx:Addr=>x.add k) A)) (0) (c-k) ag (l.drop k) rfl X.o ae.o R.o V.o ar au ?_;intro v3 w3 H y am aj;have ab:=Hm H;have P:=Hm (t.o.trans y);clear H y am aj));all_goals(try(exfalso;go_light;simp_all;done));all_goals(obtain⟨M,c9,rfl,E⟩:=ab.o.inn;have j:Hl (uS l nm=l.take k++[nm]++l.drop k):=Hm (by rw[uS,L.o,K.o,if_neg (by simp)]);have U:=Hm E;clear E;go_wp2;go_ret;exact⟨⟨M,c9,by rw[j.o];rfl,by rw[j.o];exact U.o⟩,P.o⟩)
theorem FB (l:List Node)(y:Node):nU (l++[y])=if y.op=1 then uS (nU l) y.name else nU l:=by
 rw[nU,BX,List.foldl_append,<-nU];by_cases h:y.op=1
 ·rw[if_pos h,if_pos h];rfl
 ·rw[if_neg h,if_neg h];rfl
theorem DV: ∀(l:List ByteArray) (a:List ByteArray),(l.foldl uS a).length<=a.length+l.length
 | [],a=>by simp
 |x::l,a=>by
  have b:=DV l (uS a x);have c:=MB a x;simp only[List.foldl_cons,List.length_cons];omega
theorem Bt (e:List Node):(nU e).length<=e.length:=by
 have a:=DV (qm e) [];have b:=yA e;rw[nU];simp at a;omega
theorem IE (w:World)(A:Option Addr)(n c:Nat)(e:List Node)(l:In w A n c e)(W:n<=4096):
  Calls Tryz.prog 110 #[.slice A n c] w λr w'=>(∃A' c',r=.returned (.slice A' (nU e).length c')/\In w' A' (nU e).length c' (nU e))/\Below w.heap.size w w':=by
 have T:=l.le;have F:=Hm l.len;go_enter Tryz.func110,Tryz.ntmps110;have D:=Hm l;clear l;go_wp2;go_loopw [3,4] (λv i wr=> ∃(k:Nat) (A':Option Addr) (d c':Nat) (a:List ByteArray),k<=n/\i=.int .i64 k/\v=.slice A' d c'/\a=nU (e.take k)/\In wr A' d c' a/\Below w.heap.size w wr) (λ_ i _=>n-(RowKit.intOf i).toNat)
 case atStart=>exact⟨0,none,0,0,[],Nat.zero_le _,rfl,rfl,rfl,In.nil_,Below.refl _ _⟩
 case round=>
  obtain⟨k,A',d,c',a,V,rfl,rfl,z,u,hb⟩:=hrel;have f:=Hm u;have q:=Hm z;have h:=Hm hb;clear u z hb;by_cases L:k<n
  ·obtain⟨b,off,x,rfl,U,H,N,f1,O,P,Q,R,y⟩:=(D.o.below h.o).node L;have X:(0:Int)<=(k:Int):=by omega
   have Y:(k:Int)<(n:Int):=by omega
   have I:=Hm y;have p:=Hm (FB (e.take k) x);rw[<-ic H.o,<-q.o]at p;have j:Hl (d<=4096):=Hm (by
    have S:=f.o.len;have K:=Bt (e.take k);rw[<-q.o,List.length_take]at K;omega)
   clear y;by_cases g:x.op=1
   ·have M:(x.op==1)=true:=by simpa using g
    have G:=Hm g;clear g;go_wp2_with fail;refine(J7 _ A' d c' a x.name f.o I.o.2.2.1 j.o).mono ?_;rintro r w1 ⟨⟨B,J,rfl,hi⟩,t⟩;have E:=Hm hi;have C:=Hm (fH h.o t);clear hi t;have m:Hl (uS a x.name=nU (e.take (k+1))):=Hm (by rw[p.o,if_pos G.o]);go_wp2;all_goals(try(exfalso;go_light;simp_all;done));go_roundw
    case rel=>exact⟨k+1,B,_,J,_,by omega,by go_num,rfl,m.o,E.o,C.o⟩
    case measure=>simp[RowKit.intOf];omega
   ·have M:(x.op==1)=false:=by simpa using g
    have m:Hl (a=nU (e.take (k+1))):=Hm (by rw[p.o,if_neg g]);go_wp2;all_goals(try(exfalso;go_light;simp_all;done));go_roundw
    case rel=>exact⟨k+1,A',d,c',a,by omega,by go_num,rfl,m.o,f.o,h.o⟩
    case measure=>simp[RowKit.intOf];omega
  ·have s:Hl (a=nU e):=Hm (by rw[q.o,List.take_of_length_le (by rw[F.o];omega)]);have j:=Hm f.o.len;have Z:¬(k:Int)<(n:Int):=by omega
   go_wp2;go_ret;exact⟨⟨A',c',by rw[<-s.o,j.o];rfl,by rw[<-s.o,j.o];exact f.o⟩,h.o⟩
def kR (c:Chk):List ByteArray:=if c.kind=4 then nU c.cond else c.cols
theorem Jf (w:World)(x:Chk)(A:Option Addr)(n c:Nat)(f:In w A n c x.cols)(A':Option Addr)(n' c':Nat)(A'':Option Addr)(n'' c'':Nat)(Y:In w A'' n'' c'' x.cond)(ap:n<=4096)(aj:n''<=4096)(P:¬x.kind=5):
  Calls Tryz.prog 80 #[.agg (fZ x A n c A' n' c' A'' n'' c'').toArray] w λr w'=>(∃b q c1,r=.returned (.slice b q c1)/\In w' b q c1 (kR x)/\q<=4096)/\Below w.heap.size w w':=by
 obtain⟨v,m⟩: ∃l,kR x=l:=⟨_,rfl⟩;rw[m];have t:=Hm m;have s:=Hm f.len;have ao:=f.le;have q5:(x.kind==5)=false:=by simpa using P
 clear m P;simp only[fZ];go_enter Tryz.func80,Tryz.ntmps80;have HN:=Hm f;clear f;have u:=Hm Y;clear Y;go_upto_region 1 with (fail);obtain⟨W1,p⟩: ∃W,W=w.alloc (.cells #[.string x.name,.string x.table,.int .i64 x.kind,.slice A n c,.string x.other,.slice A' n' c',.int .i64 x.low,.int .i64 x.high,.slice A'' n'' c'',.int .i64 x.ln,.int .i64 x.ld,.int .i64 x.mn,.int .i64 x.md,.int .i64 x.policy] 48):=⟨_,rfl⟩;obtain⟨S,an,k,C,H,I,g4,J,K,L,M,N,D,E,F,G⟩:=iE p rfl;rw[<-p];clear p;have d:=Hm S;clear S;have LR:=lt_of_cell k;by_cases a:x.kind=4
 ·have q4:(x.kind==4)=true:=by simpa using a
  have g:Hl (v=nU x.cond):=Hm (by rw[<-t.o,kR,if_pos a]);have ae:Hl ((nU x.cond).length<=4096):=Hm (by have h1:=Bt x.cond;have h2:=u.o.len;omega);clear a;go_wp2_with fail;refine(IE _ A'' n'' c'' x.cond (u.o.below d.o) aj).mono ?_;rintro e w2 ⟨⟨b,c1,rfl,hi⟩,R⟩;have o3:=lq k C H I g4 J K L M N D E F G;have y:=Hm R;clear R;have i:=Hm hi;clear hi;have aa:=Hm (fH d.o y.o);obtain⟨LR,k,C,H,I,g4,J,K,L,M,N,D,E,F,G⟩:=o3.o _ y.o;go_wp2;all_goals(try(exfalso;go_light;simp_all;done));go_ret;exact⟨⟨b,_,c1,rfl,by rw[g.o];exact i.o,ae.o⟩,aa.o⟩
 ·have q4:(x.kind==4)=false:=by simpa using a
  have g:Hl (v=x.cols):=Hm (by rw[<-t.o,kR,if_neg a]);clear a;have j:=Hm (HN.o.below d.o);have ab:=Hm d.o;obtain⟨ah,U,Z⟩:=Sl.cells j.o;have ad:=Hm (U.mono λz hz=>(show BS W1.heap.size (λ_=>True) [] W1 z from .inl ⟨trivial,hz⟩));have ag:=Hm Z;have af:Hl (A=none->n=0):=Hm (λh=>by have h1:=j.o.2.2.2.1 h;have h2:=j.o.2.1;omega);have al:([]:List ByteArray).length+n<=maxLen:=by simp only[maxLen,List.length_nil];omega
  have am:(([]:List ByteArray).length+n)*16<=140737488355328:=by simp only[List.length_nil];omega
  clear U Z;go_wp2_with (at_builtin;refine jC _ rfl _ _ _ rfl mq (by simp) (OL.nil (B:=W1.heap.size) (O:=λ_=>True) (T:=[]) (Nat.le_refl _)) rfl A n c ah x.cols rfl af.o ag.o ad.o s.o al am ?_;intro v1 w2 X Q ak ai);all_goals(try(exfalso;go_light;simp_all;done));obtain⟨A9,c9,rfl,V⟩:=X.inn;have i:=Hm V;have ac:=Hm (fH ab.o Q);clear X Q ak ai V;go_wp2;go_ret;refine⟨⟨A9,_,c9,rfl,?_,?_⟩,ac.o⟩
  ·rw[g.o];simpa using i.o
  ·have:=s.o;simp;omega
end Go.Proofs.YtopjjlmfilgngaaGreatDoor
