/-
  warehouseworld.Row, Columns, Table: tables that fit. bag.Add, warehouseref6.Add. bag.Subtract, warehouseref6.Subtract, Negate and their helpers. Plain law of bag.sum: a sorted list, its runs of equal rows summed. No program is in sight. warehouseworld.Columns, Table; warehouselaw22.table: columns, a zone and a table that fits.
-/
import Derived.Test.YthnelebakkggjaaGreatDoorGam
namespace Go.Proofs.YthnelebakkggjaaGreatDoor
set_option maxHeartbeats 4000000
set_option maxRecDepth 100000
open Go.RowKit
set_option linter.unusedSimpArgs false
set_option linter.unusedVariables false
theorem wQ {w W a:World}{row:Option Nat}(h:w.grownBy W row)(hb:Below w.heap.size W a):w.grownBy a row:=
 ⟨hb.os.trans h.os,hb.tape.trans h.tape,hb.output.trans h.output,Nat.le_trans h.size hb.size,λk b c=>(hb.block k b).trans (h.block k b c)⟩
theorem Num.low {W b:World}{B gb:Nat}{A:Option Addr}{n c:Nat}{l:List Int}{i:Nat}(h:Num W gb A n c l i)(hb:Below B W b)(a:gb<B):Num b gb A n c l i:=by
 obtain⟨d,e,g⟩:=h.blk;exact⟨(hb.cell (p:=⟨gb,0,none⟩) a).trans h.c0,(hb.cell (p:=⟨gb,1,none⟩) a).trans h.c1,⟨d,(hb.block gb a).trans e,g⟩,h.lst.keep λk f=>hb.block k (Nat.lt_trans f a),h.le,h.nn⟩
structure RowAt (w W:World) (gb:Nat) (A:Option Addr) (n c:Nat) (l:List Int) (cols:List Col) (B:Option Addr) (d k:Nat) (vs:List Val):Prop where
 len:vs.length=k
 fits: ∀i,i<k->Fits (cols.getD i default) (vs.getD i default)
 stk:Stk w.heap.size W 67 B d vs
 num: ∃j,Num W gb A n c l j
 grown:w.grownBy W (some gb)
theorem JE {α:Type}[Flat α]{B:Nat}{W a:World}{e:TypeId}{A:Option Addr}{c gb:Nat}{xs:List α}(h:Stk B W e A c xs)(d:W.grownBy a (some gb))(f:gb<B):Stk B a e A c xs:=
 ⟨vT h.own λg b=>d.block g (h.blk g b).1 (λe=>by injection e with e;have:=(h.blk g b).2;omega),h.ok⟩
theorem DR (w:World)(gb:Nat)(A:Option Addr)(n c:Nat)(l:List Int)(i:Nat)(h:Num w gb A n c l i)(s:Option Addr)(a c1:Nat)(cols:List Col)(D:Off w gb s a c1 cols)(E: ∀x∈cols,x.good)(ac:a<=4096):
  Calls Tryz.prog 42 #[.slice s a c1,.pointer (some ⟨gb,0,none⟩)] w
   λe w'=> ∃B d vs,e=.returned (.slice B a d)/\RowAt w w' gb A n c l cols B d a vs:=by
 obtain⟨i0,hi,Y,Z,aa⟩:=info_parts oO;have ab:=D.inn.le;have G:=h.lt;have M:=Hm E;have P:=Hm h;clear E h;go_enter Tryz.func42,Tryz.ntmps42;go_wp2;go_loopw [5,6] (λo q wr=> ∃(k:Nat) (B:Option Addr) (d:Nat) (vs:List Val),k<=a/\q=.int .i64 k/\o=.slice B k d/\RowAt w wr gb A n c l cols B d k vs) (λ_ q _=>a-(intOf q).toNat)
 case atStart=>exact⟨0,none,0,[],Nat.zero_le _,rfl,rfl,rfl,λi hi=>by omega,Stk.nil_ _ _ _,⟨_,P.o⟩,Below.grows IJ _⟩
 case round=>
  obtain⟨k,B,d,vs,hk,rfl,rfl,C⟩:=hrel;have f:=Hm C;clear C;by_cases V:k<a
  ·obtain⟨b,off,x,rfl,hB,t,u,y,z,e3⟩:=(D.grown f.o.grown).inn.col V;have X:=M.o x (fE t.o);have K:Hl (cols.getD k default=x):=Hm (by rw[List.getD,(iI t.o).1];rfl);obtain⟨j,I⟩:=f.o.num;have k0:(0:Int)<=(k:Int):=by omega
   have k1:(k:Int)<(a:Int):=by omega
   obtain⟨nm,kd,nl⟩:=x;simp only at u y z;go_wp2_with fail;refine(FJ wr gb A n c l j I nm kd nl X).mono ?_;rintro e J ⟨⟨v,j2,rfl,p,H⟩,g⟩;have L:=Hm p;have Q:=Hm H;have N:=Hm g;have W:=p.1;have ad:w.heap.size<=J.heap.size:=Nat.le_trans f.o.grown.size g.size;have S:=Hm (JE f.o.stk g G);have O:=Hm (Nat.le_of_eq f.o.len.symm);clear p H g I u y z;go_wp2_with (at_builtin;refine qI (α:=Val) _ rfl (.tmp 13) (.tmp 20) 52 rfl w.heap.size 67 i0 _ 32 Tryz.underlying52 hi Y Z aa rfl (by decide) B d k vs (S.o.keep eB) O.o rfl v W J.heap.size rfl (gU _ _ _ _ rfl) Ho (by simp;omega) ?_;intro A' c' w5 r m);have R:Hl (RowAt w w5 gb A n c l cols A' c' (k+1) (vs++[v])):=Hm (by
    have F:=f.o.len;rw[List.take_of_length_le Ho]at r;refine⟨by rw[List.length_append,F];rfl,λi hi=>?_,r,⟨j2,(Q.o.b eB).low m G⟩,wQ ((f.o.grown.trans N.o).trans (Below.grows eB _)) m⟩;by_cases T:i=k
    ·subst T;rw[K.o,List.getD,List.getElem?_append_right Ho,F,Nat.sub_self];exact L.o
    ·rw[show(vs++[v]).getD i default=vs.getD i default by rw[List.getD,List.getD,List.getElem?_append_left Ho]];exact f.o.fits i Ho)
   clear r m;go_wp2;go_roundw
   case rel=>exact⟨k+1,A',c',vs++[v],Ho,by go_num,rfl,R.o⟩
   case measure=>simp[intOf];omega
  ·have U:k=a:=by omega
   subst U;go_wp2;go_ret;exact⟨B,d,vs,rfl,f.o⟩
theorem uP {xs ys:List Ent}:pg xs ys=0↔fA xs=0/\fA ys=0:=by
 rw[pg]
 split
 ·rename_i h;exact⟨λq=>absurd q h,λq=>absurd q.1 h⟩
 ·rename_i h;exact⟨λq=>⟨by simpa using h,q⟩,λq=>q.2⟩
theorem Ir {xs ys:List Ent}(h:pg xs ys≠0):pz xs ys=(pg xs ys,[]):=by
 rw[pg]at h⊢;rw[pz]
 split
 ·rfl
 ·rename_i q;rw[if_neg q]at h;rw[if_pos h]
theorem JR {xs ys:List Ent}(h:pg xs ys=0):pz xs ys=ry (fK xs ys):=by
 obtain⟨a,b⟩:=uP.1 h;rw[pz,if_neg (by simpa using a),if_neg (by simpa using b),GY (za (mO a) (mO b)) (zb xs ys)]
theorem xX {b:List Ent}(h:fA b=0):uE 65536 b:=λx a=>by have:=vI (pV h x a);omega
theorem oz {b:List Ent}(h:fA b=0): ∀x∈b,x.row.length<=12:=λx a=>(vI (pV h x a)).2.2
theorem oP {b:List Ent}(h:fA b=0):b.length<=4096:=(jR.1 h).1
theorem FQ (w:World)(A:Option Addr)(n c:Nat)(xs:List Ent)(s:In w A n c xs)(u:Option Addr)(D c2:Nat)(a:List Ent)(t:In w u D c2 a):
  Calls Tryz.prog 44 #[.slice A n c,.slice u D c2] w λe w'=>(∃v,e=.returned (.tuple #[v,.int .i64 (pz xs a).1])/\OE w.heap.size w' v (pz xs a).2)/\Below w.heap.size w w':=by
 have j:=Hm (Ir (xs:=xs) (ys:=a));have k:=Hm (JR (xs:=xs) (ys:=a));have x:=Hm (uP (xs:=xs) (ys:=a)).1;obtain⟨R,B⟩: ∃R,pz xs a=R:=⟨_,rfl⟩;rw[B]at j k⊢;obtain⟨E,p⟩: ∃E,pg xs a=E:=⟨_,rfl⟩;have F:=Hm p;rw[p]at j k x;clear p B;have O:=s.len;have P:=t.len;go_enter Tryz.func44,Tryz.ntmps44;have f:=Hm s;clear s;have g:=Hm t;clear t;go_wp2_with fail;refine(AJ _ _ _ _ xs f.o _ _ _ a g.o).mono ?_;rintro e Q ⟨rfl,i⟩;have f:=Hm (f.o.b i);have g:=Hm (g.o.b i);have h:=Hm i;clear i;rw[F.o];by_cases d:E=0
 ·have I:=Hm (k.o d);obtain⟨l,m⟩:=x.o d;have M:=oP l;have N:=oP m;have G:Hl (fK xs (sg 1 a)=fK xs a):=Hm (by rw[MM]);have y:=Hm l;have z:=Hm m;subst d;have K:=h.o.size;clear l m;go_wp2_with fail;refine(Be _ 1 (.inl rfl) _ _ _ _ _ _ xs a f.o g.o Ho (xX y.o) (xX z.o) (oz y.o) (oz z.o)).mono ?_;rintro e S ⟨⟨v,rfl,r⟩,C⟩;have J:=Hm (eu h.o C);clear C;rw[G.o]at r⊢;have H:=Hm (r.rebase K);clear r;generalize ry (fK xs a)=L at*;obtain rfl:=I.o;go_wp2;go_ret2;exact⟨⟨_,rfl,H.o⟩,J.o⟩
 ·obtain rfl:=j.o d;have q:(E != 0)=true:=by simpa using d
  go_wp2;all_goals(try(exfalso;go_light;simp_all;done));go_ret2;exact⟨⟨_,rfl,OL.nil h.o.size⟩,h.o⟩
theorem OwnEnts.o {w w':World}{S:Nat->Prop}{v:Value}{zs:List Ent}(h:OwnEnts w w' S v zs)(a: ∀k,S k->k<w'.heap.size): ∃A c,v=.slice A zs.length c/\In w' A zs.length c zs:=h.sl a
def Cf (xs a:List Ent):Int×List Ent:=if pg xs a≠0 then(pg xs a,[]) else ry (fK xs (sg (-1) a))
theorem ML (s:Int)(l:List Ent):(sg s l).length=l.length:=List.length_map ..
theorem Lf (w:World)(A:Option Addr)(n c:Nat)(xs:List Ent)(s:In w A n c xs)(u:Option Addr)(F c2:Nat)(a:List Ent)(t:In w u F c2 a):
  Calls Tryz.prog 28 #[.slice A n c,.slice u F c2] w λe w'=>(∃v,e=.returned (.tuple #[v,.int .i64 (Cf xs a).1])/\OE w.heap.size w' v (Cf xs a).2)/\Below w.heap.size w w':=by
 have k:=Hm (show pg xs a≠0->Cf xs a=(pg xs a,[]) from λh=>if_pos h);have l:=Hm (show pg xs a=0->Cf xs a=ry (fK xs (sg (-1) a)) from λh=>if_neg (by simpa using h));have x:=Hm (uP (xs:=xs) (ys:=a)).1;obtain⟨R,B⟩: ∃R,Cf xs a=R:=⟨_,rfl⟩;rw[B]at k l⊢;obtain⟨E,r⟩: ∃E,pg xs a=E:=⟨_,rfl⟩;have G:=Hm r;rw[r]at k l x;clear r B;have O:=s.len;have P:=t.len;go_enter Tryz.func28,Tryz.ntmps28;have f:=Hm s;clear s;have g:=Hm t;clear t;go_wp2_with fail;refine(AJ _ _ _ _ xs f.o _ _ _ a g.o).mono ?_;rintro e Q ⟨rfl,j⟩;have f:=Hm (f.o.b j);have g:=Hm (g.o.b j);have i:=Hm j;clear j;rw[G.o];by_cases d:E=0
 ·have I:=Hm (l.o d);obtain⟨m,p⟩:=x.o d;have M:=oP m;have N:=oP p;have y:=Hm m;have z:=Hm p;subst d;have K:=i.o.size;clear m p;go_wp2_with fail;refine(Be _ (-1) (.inr rfl) _ _ _ _ _ _ xs a f.o g.o Ho (xX y.o) (xX z.o) (oz y.o) (oz z.o)).mono ?_;rintro e S ⟨⟨v,rfl,D⟩,C⟩;have J:=Hm (eu i.o C);clear C;have H:=Hm (D.rebase K);clear D;generalize ry (fK xs (sg (-1) a))=L at*;obtain rfl:=I.o;go_wp2;go_ret2;exact⟨⟨_,rfl,H.o⟩,J.o⟩
 ·obtain rfl:=k.o d;have q:(E != 0)=true:=by simpa using d
  go_wp2;all_goals(try(exfalso;go_light;simp_all;done));go_ret2;exact⟨⟨_,rfl,OL.nil i.o.size⟩,i.o⟩
def zU:List Ent->List Ent
 | []=>[]
 |x::l=>match zU l with
  | []=>[x]
  |y::m=>if eZ x.row y.row=0 then⟨x.row,x.count+y.count⟩::m else x::y::m
theorem GG: ∀(x:Ent) (l:List Ent),∃n m,zU (x::l)=⟨x.row,n⟩::m:=by
 intro x l;rw[zU]
 split
 ·exact⟨_,_,rfl⟩
 ·split
  ·exact⟨_,_,rfl⟩
  ·exact⟨_,_,rfl⟩
def Aa:List Ent->Int
 | []=>0
 |x::l=>x.count+Aa l
theorem Ij (l:List Ent)(x:Ent):Aa (l++[x])=Aa l+x.count:=by
 induction l with
 |nil=>simp[Aa]
 |cons y l a=>rw[List.cons_append,Aa,Aa,a];omega
theorem CY (r:List Val)(rest:List Ent)(g: ∀y∈rest.head?,y.row≠r): ∀(d:List Ent),d≠[]->(∀x∈d,x.row=r)->zU (d++rest)=⟨r,Aa d⟩::zU rest
 | [],h,_=>absurd rfl h
 | [x],_,h=>by
  have c:=h x II;rw[List.singleton_append,zU];cases rest with
  |nil=>
   simp only[zU,Aa];obtain⟨a,b⟩:=x;simp only at c;subst c;simp
  |cons y rest=>
   obtain⟨n,m,e⟩:=GG y rest;rw[e];simp only;have f:=g y II;rw[if_neg λq=>f ((iG.1 q).symm.trans c)];obtain⟨a,b⟩:=x;simp only at c;subst c;simp[Aa]
 |x::j::d,_,h=>by
  have c:=h x II;have i:=CY r rest g (j::d) II λy f=>h y (by simp[f]);rw[List.cons_append,zU,i];simp only;rw[if_pos (iG.2 c),c];rfl
def El (b:List Ent)(r:List Val)(k q:Nat)(n:Int):Prop:= ∃a,b.drop k=a++b.drop q/\a.length=q-k/\(∀x∈a,x.row=r)/\n=Aa a/\ -65536*((q:Int)-k)<=n/\n<=65536*((q:Int)-k)
theorem El.start (a:List Ent)(r:List Val)(k:Nat):El a r k k 0:=⟨[],by simp,by simp,by simp,rfl,Ho,Ho⟩
theorem El.step {b:List Ent}{r:List Val}{k q:Nat}{n:Int}(h:El b r k q n)(o:k<=q){y:Ent}(g:b.drop q=y::b.drop (q+1))(f:y.row=r)(hb: -65536<=y.count/\y.count<=65536):El b r k (q+1) (n+y.count):=by
 obtain⟨i,c,j,d,e,l,m⟩:=h;refine⟨i++[y],by rw[c,g];simp,by simp;omega,λx a=>?_,by rw[Ij,e],Ho,Ho⟩;rcases List.mem_append.1 a with a|a
 ·exact d x a
 ·simp at a;subst a;exact f
theorem El.fin {a:List Ent}{k q:Nat}{n:Int}{x:Ent}(h:El a x.row k q n)(l:a.drop k=x::a.drop (k+1))(f: ∀y∈(a.drop q).head?,y.row≠x.row):zU (a.drop k)=⟨x.row,n⟩::zU (a.drop q)/\k<q:=by
 obtain⟨c,b,g,i,j,_⟩:=h;have d:c≠[]:=λe=>by
  rw[e,List.nil_append]at b;exact f x (by rw[<-b,l];simp) rfl
 refine⟨by rw[b,j];exact CY x.row _ f c d i,?_⟩;cases c with
 |nil=>exact absurd rfl d
 |cons _ _=>simp at g;omega
def NM (nl:Bool):Col:=⟨⟨#[105,100]⟩,2,nl⟩
def Nh (nl:Bool):Col:=⟨⟨#[110,97,109,101]⟩,3,nl⟩
theorem Mj {c:Col}(a:c.name.size<=4)(b:0<=c.kind)(d:c.kind<=4):c.ok:=⟨by unfold Str;omega,Ho,Ho⟩
theorem EA (xs:List Col)(w:World)(S:Nat->Prop)(h: ∀x∈xs,x.ok):Cells w S (xs.flatMap Col.cells) xs:=by
 induction xs with
 |nil=>rfl
 |cons x l b=>exact⟨x.cells,_,rfl,⟨rfl,h x II⟩,b λy a=>h y (by simp[a])⟩
theorem G8 {α:Type}[Rep α]{w b d:World}{gb:Nat}{A:Option Addr}{n c:Nat}{xs:List α}{t:Nat}(i:t≠64)(hb:jQ b 64 gb)(f:b.grownBy d (some gb))(h:Sl b (New w b t) A n c xs):Sl d (New w d t) A n c xs:=by
 have hs: ∀k,jQ b t k->d.heap[k]?=b.heap[k]?:=λk a=>f.block k a.lt λe=>by
  injection e with e;exact jQ.ne a hb i e
 refine(h.keep λk a=>hs k a.2).mono λk a=>⟨a.1,?_⟩;obtain⟨q,g⟩:=a.2;exact⟨q,(hs k a.2).trans g⟩
theorem xy {w a b:World}{gb:Nat}{v:Value}{zs:List Ent}(hb:jQ a 64 gb)(c:a.grownBy b (some gb))(h:fw w a v zs):fw w b v zs:=
 h.kept c (by
  by_cases q:v.ownBlock=some gb
  ·exact absurd rfl (jQ.ne (h.row q).2.2 hb (by decide))
  ·exact .inr q) λk e d=>by
   injection e with e;exact jQ.ne d hb (by decide) e.symm
def En (cols:List Col)(x:Ent):Prop:=x.row.length=cols.length/\(∀i,i<cols.length->Fits (cols.getD i default) (x.row.getD i default))/\1<=x.count/\x.count<=2
structure TabAt (w W:World) (gb:Nat) (A:Option Addr) (n c:Nat) (l:List Int) (cols:List Col) (v:Value) (xs:List Ent):Prop where
 fresh:fw w W v xs
 ents: ∀x∈xs,En cols x
 num: ∃j,Num W gb A n c l j
 grown:w.grownBy W (some gb)
theorem EN {x:Int}(a:0<=x)(b:x<3):x.tdiv 2=x / 2/\0<=x / 2/\x / 2<=1:=⟨Int.tdiv_eq_ediv_of_nonneg a,Ho,Ho⟩
theorem zD (w:World)(gb:Nat)(A:Option Addr)(n c:Nat)(l:List Int)(i:Nat)(H:Num w gb A n c l i)(F:Option Addr)(r c1:Nat)(cols:List Col)(Y:Off w gb F r c1 cols)(ar: ∀x∈cols,x.good)(aE:r<=12)(m:Int)(aD:0<=m)(hm:m<=1000):
  Calls Tryz.prog 25 #[.slice F r c1,.pointer (some ⟨gb,0,none⟩),.int .i64 m] w
   λe w'=> ∃v xs zs q j,e=.returned v/\fw w w' v zs/\(∀x∈xs,En cols x)/\xs.length<=1000/\wE xs q zs/\Num w' gb A n c l j/\w.grownBy w' (some gb):=by
 obtain⟨i0,hi,ay,az,aA⟩:=info_parts q8;have av:=H.lt;have aa:=Hm Y.inn.len;have q0:IntKind.i64.wrap (m+1)=m+1:=IntWalk.i64_in _ Ho;go_enter Tryz.func25,Tryz.ntmps25;go_wp2_with fail;refine(kC w gb A n c l i H (m+1) Ho).mono ?_;rintro e w1 ⟨⟨s,j,rfl,s0,N,ad⟩,t⟩;have N:=N Ho;have ao:Hl (TabAt w w1 gb A n c l cols (.slice none 0 0) []):=Hm ⟨fw.nil _ _,(λx hx=>by cases hx),⟨_,ad⟩,t⟩;clear ad t H;obtain⟨s,rfl⟩: ∃s':Nat,s=(s':Int):=⟨s.toNat,Ho⟩;have s2:s<=1000:=by omega
 clear s0 N;go_wp2;go_loopw [7,8] (λo q wr=> ∃(k:Nat) (xs:List Ent),q=.int .i64 k/\xs.length+k<=1000/\TabAt w wr gb A n c l cols o xs) (λ_ q _=>(intOf q).toNat)
 case atStart=>exact⟨s,[],rfl,by simp;omega,ao.o⟩
 case round=>
  obtain⟨k,xs,rfl,aC,W⟩:=hrel;have f:=Hm W;clear W;obtain⟨j2,C⟩:=f.o.num;have M:=f.o.grown.size;by_cases a:0<k
  ·have k0:(0:Int)<(k:Int):=by omega
   have k2:IntKind.i64.wrap ((k:Int)-1)=(k:Int)-1:=IntWalk.i64_in _ Ho;go_wp2_with fail;refine(DR wr gb A n c l j2 C F r c1 cols (Y.grown f.o.grown) ar Ho).mono ?_;rintro e z ⟨B,d,vs,rfl,I⟩;obtain⟨j3,K⟩:=I.num;have p:=Hm I;have V:=Hm K;clear I;go_wp2_with fail;refine(kC z gb A n c l j3 K 3 Ho).mono ?_;rintro e O ⟨⟨x,j4,rfl,x0,P,ae⟩,ab⟩;have P:=P Ho;obtain⟨p1,p2,p3⟩:=EN x0 P;have p4:IntKind.i64.wrap (x / 2)=x / 2:=IntWalk.i64_in _ Ho;have p5:IntKind.i64.wrap (1+x / 2)=1+x / 2:=IntWalk.i64_in _ Ho;have aj:=Hm ae;have D:=Hm ab;have ax:=C;clear C K ae ab;have an:Hl (w.heap.size<=O.heap.size):=Hm (Nat.le_trans (Nat.le_trans M p.o.grown.size) D.o.size);have aF:=an.o;have ai:=Hm (xy V.o.blk.ty D.o (xy ax.blk.ty p.o.grown f.o.fresh));have al:Hl (Sl z (New w z 67) B r d vs):=Hm (by
    have hl:=p.o.len;obtain⟨A',c',hv,hs,_⟩:=jZ (S:=λ_=>False) (T:=New w z 67) p.o.stk.own (pW z _ p.o.stk.ok) (λ_ h=>h.elim) rfl (λg hg ht=>⟨Nat.le_trans M hg,ht⟩);injection hv with h1 _ h3;subst h1 h3;rw[hl]at hs;exact hs)
   have am:=Hm (G8 (by decide) V.o.blk.ty D.o al.o);have ah:Hl (En cols ⟨vs,1+x / 2⟩):=Hm ⟨by show vs.length=_;rw[p.o.len,aa.o],λi hi=>p.o.fits i (by rw[<-aa.o];exact hi),by show 1<=1+x / 2;omega,by show 1+x / 2<=2;omega⟩;obtain⟨cs,L,Z⟩:=ai.o;obtain⟨E,J⟩: ∃E,xs.length=E:=⟨_,rfl⟩;rw[J]at L;have U:=Hm J;have aB:E<=1000:=by omega
   have G:=Hm L;have ag:=Hm Z;clear J L Z;go_wp2_with (at_builtin;refine lI _ rfl (.tmp 19) (.tmp 28) 30 rfl w.heap.size 55 i0 _ 2 32 Tryz.underlying30 hi ay az aA rfl (by decide) u7 E cs rfl (G.o.alloc _) (some ⟨O.heap.size,0,none⟩) 1 1 [.slice B r d,.int .i64 (1+x / 2)] rfl (by intro h;cases h) (qF (by simp[go_sem]) (by simp[go_sem])) pJ (by simp only[maxLen];omega) Ho (by simp;omega) ?_;intro v1 w5 af t aq);have R:Hl (Below w.heap.size (O.alloc (.cells #[.slice B r d,.int .i64 (1+x / 2)] 55)) w5):=Hm ((IJ).grown t (by simp;omega) (λj e=>(G.o.lt j e).1));have ap:Hl (TabAt w w5 gb A n c l cols v1 (xs++[⟨vs,1+x / 2⟩])):=Hm (by
    refine⟨fw.add (x:=⟨vs,1+x / 2⟩) (by rw[U.o];exact G.o.alloc _) ((ag.o.keep ((Same.b eB).sub λk a=>a.2.lt)).mono λk a=>⟨a.1,a.2.b eB⟩) ((am.o.keep ((Same.b eB).sub λk a=>a.2.lt)).mono λk a=>⟨a.1,a.2.b eB⟩) ⟨by show -9223372036854775808<=1+x / 2;omega,by show 1+x / 2<=9223372036854775807;omega⟩ (λk a aw=>t.block k a (λe=>aw e.symm)) (by rw[U.o];exact af),λy u=>?_,⟨j4,(aj.o.b eB).low R.o av⟩,wQ (((f.o.grown.trans p.o.grown).trans D.o).trans (Below.grows eB _)) R.o⟩;rcases List.mem_append.1 u with u|u
    ·exact f.o.ents y u
    ·simp at u;subst u;exact ah.o)
   clear af t aq;go_wp2;go_roundw
   case rel=>exact⟨k-1,xs++[⟨vs,1+x / 2⟩],by go_num,by rw[List.length_append];show xs.length+1+(k-1)<=1000;omega,ap.o⟩
   case measure=>simp[intOf];omega
  ·have au:k=0:=by omega
   subst au;obtain⟨A7,c7,rfl,ac⟩:=f.o.fresh.sl;go_wp2_with fail;refine(uN wr A7 _ c7 xs ac Ho).mono ?_;rintro e z ⟨⟨v,q,zs,rfl,hf,hn⟩,X⟩;have HF:=Hm (hf.base M);have HN:=Hm hn;have Q:=Hm X;have ak:=Hm C;clear hf hn X C ac;go_wp2;go_ret;exact⟨v,xs,zs,q,j2,rfl,HF.o,f.o.ents,Ho,HN.o,ak.o.b Q.o,f.o.grown.trans (Below.grows Q.o _)⟩
section
variable {P:Program}
end
def Hi {α:Type}[Rep α](B:Nat)(w:World)(A:Option Addr)(n c:Nat)(xs:List α):Prop:=Sl w (λk=>B<=k/\k<w.heap.size) A n c xs
section
variable {α:Type}[Rep α]{B gb:Nat}{w w':World}{A:Option Addr}{n c:Nat}{xs:List α}
theorem Hi.inn (h:Hi B w A n c xs):In w A n c xs:=Sl.mono (λk a=>a.2) h
theorem Hi.off (h:Hi B w A n c xs)(b:gb<B):Off w gb A n c xs:=Sl.mono (λk a=>⟨a.2,Ho⟩) h
theorem Hi.grown {row:Option Nat}(h:Hi B w A n c xs)(b:w.grownBy w' row)(d: ∀k,row=some k->k<B):Hi B w' A n c xs:=
 (Sl.keep (λk a=>b.block k a.2 λe=>by have:=d k e.symm;omega) h).mono λk a=>⟨a.1,Nat.lt_of_lt_of_le a.2 b.size⟩
theorem Hi.b (h:Hi B w A n c xs)(hb:Below w.heap.size w w'):Hi B w' A n c xs:=h.grown (row:=none) (Below.grows hb _) λk e=>by cases e
theorem C8 (h:In w A n c xs)(m: ∀(S T:Nat->Prop) (d:List Value) (a:α),Rep.rd w S d a->Rep.rd w T d a)(hb: ∀b off,A=some ⟨b,off,none⟩->B<=b):Hi B w A n c xs:=by
 refine⟨h.1,h.2.1,h.2.2.1,h.2.2.2.1,λl=>?_⟩;obtain⟨b,off,e,k,hi⟩:=h.2.2.2.2 l;refine⟨b,off,e,⟨hb b off e,k⟩,λi j=>?_⟩;obtain⟨d,f,g⟩:=hi i j;exact⟨d,m _ _ d _ f,g⟩
end
theorem fw.hi {w w':World}{v:Value}{zs:List Ent}(h:fw w w' v zs): ∃A c,v=.slice A zs.length c/\Hi w.heap.size w' A zs.length c zs:=by
 obtain⟨i,b,d⟩:=h;obtain⟨A,c,e,hs,_⟩:=jZ (T:=λk=>w.heap.size<=k/\k<w'.heap.size) b d (λk a=>⟨a.1,a.2.lt⟩) rfl (λg hb f=>⟨hb,f.lt⟩);exact⟨A,c,e,hs⟩
def u6 (cols:List Col)(zs:List Ent):Prop:= ∃xs q,(∀x∈xs,En cols x)/\xs.length<=1000/\wE xs q zs
end Go.Proofs.YthnelebakkggjaaGreatDoor
