/-
  The closures of check.violated; check.holds.
-/
import Derived.Test.YtopjjlmfilgngaaGreatDoorGaw
import Derived.Test.YtopjjlmfilgngaaGreatDoorEvA
namespace Go.Proofs.YtopjjlmfilgngaaGreatDoor
set_option maxHeartbeats 2000000
set_option maxRecDepth 100000
open Go.RowKit Go.Maps
set_option linter.unusedSimpArgs false
set_option linter.unusedVariables false
structure OwnAt (W:World) (go gr gc:Nat) (A:Option Addr) (n c:Nat) (cols:List Col) (A3:Option Addr) (n3 c3:Nat) (names:List ByteArray):Prop where
 own:W.cell? ⟨go,0,none⟩=some (.func (.func 116) #[] #[.pointer (some ⟨gr,0,none⟩),.pointer (some ⟨gc,0,none⟩)])
 rel:W.cell? ⟨gr,1,none⟩=some (.slice A n c)
 chk:W.cell? ⟨gc,3,none⟩=some (.slice A3 n3 c3)
 cols:In W A n c cols
 names:In W A3 n3 c3 names
theorem OwnAt.below {W a:World}{go gr gc:Nat}{A:Option Addr}{n c:Nat}{cols:List Col}{A3:Option Addr}{n3 c3:Nat}{names:List ByteArray}(h:OwnAt W go gr gc A n c cols A3 n3 c3 names)(hb:Below W.heap.size W a):OwnAt a go gr gc A n c cols A3 n3 c3 names:=
 ⟨fO hb (lt_of_cell h.own) h.own,fO hb (lt_of_cell h.rel) h.rel,fO hb (lt_of_cell h.chk) h.chk,h.cols.below hb,h.names.below hb⟩
section
variable (W:World)(go gr gc:Nat)(A:Option Addr)(n c:Nat)(cols:List Col)(A3:Option Addr)(n3 c3:Nat)(names:List ByteArray)(h:OwnAt W go gr gc A n c cols A3 n3 c3 names)(q:n<=4096)(j:n3<=4096)(d:Option Addr)(i g:Nat)(row:List Val)(a:In W d i g row)
include h q j a in
theorem yB:
  Calls Tryz.prog 116 #[.slice d i g,.pointer (some ⟨gr,0,none⟩),.pointer (some ⟨gc,0,none⟩)] W
   λe w'=>(∃A' m c',e=.returned (.slice A' m c')/\In w' A' m c' (gB cols names row))/\Below W.heap.size W w':=by
 have t:=h.rel;have u:=h.chk;have l:=Hm h.cols;have r:=Hm h.names;clear h;go_enter Tryz.func116,Tryz.ntmps116;go_wp2_with fail;refine(sK _ A n c cols (by exact l.o) A3 n3 c3 names (by exact r.o) d i g row (by exact a) (by omega) j).mono ?_;rintro e v ⟨⟨A',m,c',rfl,f,b,s⟩,hb⟩;have p:=Hm (jB f b);have k:=Hm hb;clear f b s hb;go_wp2;go_ret;exact⟨⟨A',m,c',rfl,p.o⟩,k.o⟩
include h q j a in
theorem GM (v b k:Nat)(w:W.cell? ⟨v,0,none⟩=some (.map (some b)))(f:ByteArray->Int)(G:mX Tryz.prog 9 W b k (.int .i64 0) (λs=>.int .i64 (f s))):
  Calls Tryz.prog 118 #[.slice d i g,.pointer (some ⟨v,0,none⟩),.pointer (some ⟨go,0,none⟩)] W
   λe w'=>e=.returned (.bool (decide (1<f (iD (gB cols names row)))))/\Below W.heap.size W w':=by
 have u:=h.own;have O:=lt_of_cell u;have P:=lt_of_cell w;have J:=Hm h;have L:=Hm G;have K:=Hm a;have y:=Hm w;have x:=Hm u;have D:=Hm O;have E:=Hm P;obtain⟨T,r⟩: ∃T,iD (gB cols names row)=T:=⟨_,rfl⟩;have C:=Hm (qh (gB cols names row));rw[r]at C;have B:=Hm r;rw[r];clear r h G a;obtain⟨M,F⟩: ∃p,gB cols names row=p:=⟨_,rfl⟩;have z:=Hm λV N a=>yB V go gr gc A n c cols A3 n3 c3 names N q j d i g row a;rw[F]at B z;clear F;go_enter Tryz.func118,Tryz.ntmps118;go_wp2;have Q:True:=trivial;go_region_held3 (λV=>V.cell? ⟨v,0,none⟩=some (.map (some b))/\V.cell? ⟨go,0,none⟩=some (.func (.func 116) #[] #[.pointer (some ⟨gr,0,none⟩),.pointer (some ⟨gc,0,none⟩)]))
  (first|exact⟨fO l.o E.o y.o,fO l.o D.o x.o⟩|exact⟨fO t.o E.o y.o,fO t.o D.o x.o⟩|exact⟨w,u⟩)
  (first
   |(clear Q;go_at_call 116;refine(z.o _ (by exact J.o.below (Below.refl _ _).drew) (by exact K.o.below (Below.refl _ _).drew)).mono ?_;rintro e Y ⟨⟨A',m,c',rfl,hi⟩,hb⟩;have I:=Hm hi;have t:=Hm (fP hb);clear hi hb;have R:True:=trivial)
   |(clear R;go_at_call 119;refine(zV _ A' m c' M (by exact I.o)).mono ?_;rintro e S ⟨rfl,H⟩;rw[B.o];have l:=Hm (fH t.o H);have U:=(L.o.below l.o).look (V:=S) Tryz.underlying157 Tryz.underlying9 (λV=>Tryz.zeroValue3 V) C.o rfl;clear H;have X:True:=trivial))
 go_wp2;go_ret;exact⟨rfl,l.o⟩
include h q j a in
theorem Lu:
  Calls Tryz.prog 120 #[.slice d i g,.pointer (some ⟨go,0,none⟩)] W
   λe w'=>e=.returned (.bool (oo (gB cols names row)))/\Below W.heap.size W w':=by
 have x:=h.own;have t:=Hm h;have u:=Hm a;clear h a;obtain⟨v,f⟩: ∃p,gB cols names row=p:=⟨_,rfl⟩;have b:=Hm λV w a=>yB V go gr gc A n c cols A3 n3 c3 names w q j d i g row a;rw[f]at b⊢;clear f;go_enter Tryz.func120,Tryz.ntmps120;go_wp2_with fail;refine(b.o _ (by exact t.o) (by exact u.o)).mono ?_;rintro e y ⟨⟨A',m,c',rfl,hi⟩,hb⟩;have s:=Hm hi;have l:=Hm hb;clear hi hb;go_wp2_with fail;refine(xS _ A' m c' v (by exact s.o)).mono ?_;rintro e z ⟨rfl,k⟩;have r:=Hm (fH l.o k);clear k;go_wp2;go_ret;exact⟨rfl,r.o⟩
include h q j a in
theorem Js (s hi:Int)(y:W.cell? ⟨gc,6,none⟩=some (.int .i64 s))(J:W.cell? ⟨gc,7,none⟩=some (.int .i64 hi))(z:0<(gB cols names row).length):
  Calls Tryz.prog 122 #[.slice d i g,.pointer (some ⟨go,0,none⟩),.pointer (some ⟨gc,0,none⟩)] W
   λe w'=>e=.returned (.bool (((gB cols names row).getD 0 zeroV).kind != 0&&(decide (((gB cols names row).getD 0 zeroV).num<s) || decide (hi<((gB cols names row).getD 0 zeroV).num))))/\Below W.heap.size W w':=by
 have e0:=h.own;have T:=Hm h;have U:=Hm a;clear h a;obtain⟨I,K⟩: ∃p,gB cols names row=p:=⟨_,rfl⟩;have D:=Hm λV Z a=>yB V go gr gc A n c cols A3 n3 c3 names Z q j d i g row a;rw[K]at D z⊢;clear K;obtain⟨V,X,rfl⟩: ∃v l,I=v::l:=by
  cases I with
  |nil=>simp at z
  |cons v l=>exact⟨v,l,rfl⟩
 obtain⟨t,r,vs⟩:=V;have E:=Hm (show((⟨t,r,vs⟩::X:List Val).getD 0 zeroV)=⟨t,r,vs⟩ from rfl);rw[E.o];clear z E;have G:=lt_of_cell y;have Q:=Hm y;have R:=Hm J;clear y J;go_enter Tryz.func122,Tryz.ntmps122;go_wp2_with fail;refine(D.o _ (by exact T.o) (by exact U.o)).mono ?_;rintro e C ⟨⟨A',m,c',rfl,u⟩,hb⟩;have P:=fO hb G Q.o;have q7:=fO hb G R.o;have H:=lt_of_cell P;have S:=Hm hb;have Y:0<m:=by rw[<-u.len];simp
 obtain⟨b,off,x,rfl,aa,F,x0,x1,x2,x3⟩:=u.val Y;have L:=F.o;rw[List.drop_zero]at L;injection L with hx1 hx2;subst hx1;have ab:=u.cap;have z0:(0:Int)<(m:Int):=by omega
 have ac:(0:Int)<=(c':Int):=by omega
 clear u hb hx2 F;simp only[Nat.zero_mul,Nat.add_zero]at x0 x1 x2;obtain⟨k,f⟩: ∃k,k=C.alloc (.cells #[.int .i64 t,.int .i64 r,.string vs] 36):=⟨_,rfl⟩;have y0:k.cell? ⟨C.heap.size,0,none⟩=some (.int .i64 t):=by rw[f];simp[go_sem]
 have y1:k.cell? ⟨C.heap.size,1,none⟩=some (.int .i64 r):=by rw[f];simp[go_sem]
 have r6:k.cell? ⟨gc,6,none⟩=some (.int .i64 s):=by rw[f];exact fO fI H P
 have r7:k.cell? ⟨gc,7,none⟩=some (.int .i64 hi):=by rw[f];exact fO fI H q7
 have w:=Hm (show Below W.heap.size W k by rw[f];exact fH S.o fI);by_cases M:t=0
 ·subst M;go_wp2_with fail;rw[<-f];go_wp2;all_goals(try(exfalso;go_light;simp_all;done));go_ret;exact⟨gp (by simp),w.o⟩
 ·have N:(t != 0)=true:=by simpa using M
  by_cases O:r<s
  ·have B:decide (r<s)=true:=by simpa using O
   go_wp2_with fail;rw[<-f];go_wp2;all_goals(try(exfalso;go_light;simp_all;done));go_ret;exact⟨gp (by rw[N,B];rfl),w.o⟩
  ·have B:decide (r<s)=false:=by simpa using O
   go_wp2_with fail;rw[<-f];go_wp2;all_goals(try(exfalso;go_light;simp_all;done));go_ret;exact⟨gp (by rw[N,B];simp),w.o⟩
include h q j a in
theorem Jq (J b k:Nat)(K:W.cell? ⟨J,0,none⟩=some (.map (some b)))(f:ByteArray->Int)(S:mX Tryz.prog 9 W b k (.int .i64 0) (λs=>.int .i64 (f s))):
  Calls Tryz.prog 123 #[.slice d i g,.pointer (some ⟨go,0,none⟩),.pointer (some ⟨J,0,none⟩)] W
   λe w'=>e=.returned (.bool (!oo (gB cols names row)&&f (iD (gB cols names row))==0))/\Below W.heap.size W w':=by
 have I:=h.own;have l0:=lt_of_cell I;have lm:=lt_of_cell K;have F:=Hm h;have HS:=Hm S;have G:=Hm a;have w:=Hm K;have v:=Hm I;have y:=Hm l0;have z:=Hm lm;obtain⟨T,B⟩: ∃T,iD (gB cols names row)=T:=⟨_,rfl⟩;have P:=Hm (qh (gB cols names row));rw[B]at P;have O:=Hm B;rw[B];clear B h S a;obtain⟨H,R⟩: ∃p,gB cols names row=p:=⟨_,rfl⟩;have x:=Hm λV hv a=>yB V go gr gc A n c cols A3 n3 c3 names hv q j d i g row a;rw[R]at O x⊢;clear R;have E:=Hm λV A' m c' hi=>xS V A' m c' H hi;obtain⟨N,Q⟩: ∃N,oo H=N:=⟨_,rfl⟩;rw[Q]at E⊢;clear Q;cases N
 ·go_enter Tryz.func123,Tryz.ntmps123;go_wp2;have L:True:=trivial;go_region_held3 (λV=>V.cell? ⟨J,0,none⟩=some (.map (some b))/\V.cell? ⟨go,0,none⟩=some (.func (.func 116) #[] #[.pointer (some ⟨gr,0,none⟩),.pointer (some ⟨gc,0,none⟩)]))
   (first|exact⟨fO u.o z.o w.o,fO u.o y.o v.o⟩|exact⟨fO C.o z.o w.o,fO C.o y.o v.o⟩|exact⟨fO l.o z.o w.o,fO l.o y.o v.o⟩|exact⟨fO r.o z.o w.o,fO r.o y.o v.o⟩|exact⟨K,I⟩)
   (first
    |(clear L;go_at_call 116;refine(x.o _ (by exact F.o.below (Below.refl _ _).drew) (by exact G.o.below (Below.refl _ _).drew)).mono ?_;rintro e w1 ⟨⟨A',m,c',rfl,hi⟩,hb⟩;have D:=Hm hi;have r:=Hm (fP hb);clear hi hb;have M:True:=trivial)
    |(clear M;go_at_call 121;refine(E.o _ A' m c' (by exact D.o)).mono ?_;rintro e w2 ⟨rfl,t⟩;have l:=Hm (fH r.o t);clear t;have Z:True:=trivial)
    |(clear Z;go_at_call 116;refine(x.o _ (by exact F.o.below l.o) (by exact G.o.below l.o)).mono ?_;rintro e w3 ⟨⟨A5,m5,c5,rfl,Y⟩,U⟩;have aa:=Hm Y;have C:=Hm (fH l.o U);clear Y U;have ab:True:=trivial)
    |(clear ab;go_at_call 119;refine(zV _ A5 m5 c5 H (by exact aa.o)).mono ?_;rintro e w4 ⟨rfl,X⟩;rw[O.o];have u:=Hm (fH C.o X);have LK:=(HS.o.below u.o).look (V:=w4) Tryz.underlying157 Tryz.underlying9 (λV=>Tryz.zeroValue3 V) P.o rfl;clear X;have ac:True:=trivial))
  go_wp2;go_ret;exact⟨gp (by simp),u.o⟩
 ·go_enter Tryz.func123,Tryz.ntmps123;go_wp2;have L:True:=trivial
  first|(go_region_law (first|(clear L;go_simp;go_at_call 116;refine(x.o _ (by exact F.o.below (Below.refl _ _).drew) (by exact G.o.below (Below.refl _ _).drew)).mono ?_;rintro e w1 ⟨⟨A',m,c',rfl,hi⟩,hb⟩;have D:=Hm hi;have r:=Hm (fP hb);clear hi hb;have M:True:=trivial;go_wp2_with fail)|(clear M;go_simp;go_at_call 121;refine(E.o _ A' m c' (by exact D.o)).mono ?_;rintro e w2 ⟨rfl,t⟩;have l:=Hm (fH r.o t);clear t;have Z:True:=trivial;go_wp2_with fail)))|fail
  all_goals
   go_wp2;go_ret;exact⟨gp (by simp),l.o⟩
end
theorem xL (es:List Node)(cols:List Col)(row:List Val)(zs:List Zone):valid (kW es cols row zs).2=true:=by
 rw[kW];by_cases a:(iX es cols zs).1=0
 ·rw[if_neg (by omega)];by_cases b:gF cols row=0
  ·rw[if_neg (by omega)];exact(FL b a).2.1
  ·rw[if_pos b];exact oG
 ·rw[if_pos a];exact oG
theorem IY (w:World)(x:Chk)(A:Option Addr)(n c:Nat)(A':Option Addr)(n' c':Nat)(A'':Option Addr)(n'' c'':Nat)(f:In w A'' n'' c'' x.cond)(hw:Words w)(i:Option Addr)(O c1:Nat)(cols:List Col)(d:In w i O c1 cols)(A3:Option Addr)(n3 c3:Nat)(row:List Val)(g:In w A3 n3 c3 row)(A2:Option Addr)(n2 c2:Nat)(zs:List Zone)(h:In w A2 n2 c2 zs):
  Calls Tryz.prog 125 #[.agg (fZ x A n c A' n' c' A'' n'' c'').toArray,.slice i O c1,.slice A3 n3 c3,.slice A2 n2 c2] w λe w'=>e=.returned (.bool (qQ x.cond cols row zs))/\Below w.heap.size w w':=by
 have l:=Hm λW f hw d g h=>KD W A'' n'' c'' x.cond f hw i O c1 cols d A3 n3 c3 row g A2 n2 c2 zs h;have r:=Hm (mh (xL x.cond cols row zs));have b:=Hm (show qQ x.cond cols row zs=((kW x.cond cols row zs).1==0&&truth (kW x.cond cols row zs).2==1) from rfl);obtain⟨R,L⟩: ∃R,qQ x.cond cols row zs=R:=⟨_,rfl⟩;obtain⟨E,Y⟩: ∃E,kW x.cond cols row zs=E:=⟨_,rfl⟩;rw[L]at b;rw[Y]at l r b;rw[L];clear L Y;obtain⟨V,P,Q,vs⟩:=E;simp only[Val.cells]at l r b;simp only[fZ];go_enter Tryz.func125,Tryz.ntmps125;have m:=Hm f;clear f;have s:=Hm hw;clear hw;have k:=Hm d;clear d;have p:=Hm g;clear g;have t:=Hm h;clear h;go_wp2_with fail;obtain⟨W1,M⟩: ∃W,W=w.alloc (.cells #[.string x.name,.string x.table,.int .i64 x.kind,.slice A n c,.string x.other,.slice A' n' c',.int .i64 x.low,.int .i64 x.high,.slice A'' n'' c'',.int .i64 x.ln,.int .i64 x.ld,.int .i64 x.mn,.int .i64 x.md,.int .i64 x.policy] 48):=⟨_,rfl⟩;obtain⟨a,ac,u,v,D,F,g4,G,H,I,J,K,y,z,B,C⟩:=iE M rfl;rw[<-M];clear M;have m:=Hm (m.o.below a);have s:=Hm (s.o.below a);have k:=Hm (k.o.below a);have p:=Hm (p.o.below a);have t:=Hm (t.o.below a);have ab:=Hm a;clear a;have S:=lt_of_cell u;refine(l.o _ m.o s.o k.o p.o t.o).mono ?_;rintro e w2 ⟨rfl,N⟩;obtain⟨u,v,D,F,g4,G,H,I,J,K,y,z,B,C,S⟩:=jE N S u v D F g4 G H I J K y z B C;have U:=Hm (fH ab.o N);clear N;clear v D F g4 G H I J K y z B C;by_cases X:V=0
 ·subst X;go_wp2_with fail;refine(JH ⟨P,Q,vs⟩ r.o _).mono ?_;rintro e w3 ⟨rfl,aa⟩;have j:=Hm (fH U.o (fH fI aa));obtain⟨T,Z⟩: ∃T,truth ⟨P,Q,vs⟩=T:=⟨_,rfl⟩;rw[Z]at b⊢;clear Z aa;go_wp2;go_ret;exact⟨gp (by rw[b.o];simp),j.o⟩
 ·have q:(V==0)=false:=by simpa using X
  obtain rfl:R=false:=by rw[b.o,q];rfl
  have j:=Hm (fH U.o (fI (o:=.cells #[.int .i64 P,.int .i64 Q,.string vs] 36)));go_wp2;all_goals(try(exfalso;go_light;simp_all;done));go_ret;exact⟨rfl,j.o⟩
structure ChkAt (W:World) (g:Nat) (x:Chk) (A:Option Addr) (n c:Nat) (A':Option Addr) (n' c':Nat) (A'':Option Addr) (n'' c'':Nat):Prop where
 c0:W.cell? ⟨g,0,none⟩=some (.string x.name)
 c1:W.cell? ⟨g,1,none⟩=some (.string x.table)
 c2:W.cell? ⟨g,2,none⟩=some (.int .i64 x.kind)
 c3:W.cell? ⟨g,3,none⟩=some (.slice A n c)
 c4:W.cell? ⟨g,4,none⟩=some (.string x.other)
 c5:W.cell? ⟨g,5,none⟩=some (.slice A' n' c')
 c6:W.cell? ⟨g,6,none⟩=some (.int .i64 x.low)
 c7:W.cell? ⟨g,7,none⟩=some (.int .i64 x.high)
 c8:W.cell? ⟨g,8,none⟩=some (.slice A'' n'' c'')
 c9:W.cell? ⟨g,9,none⟩=some (.int .i64 x.ln)
 c10:W.cell? ⟨g,10,none⟩=some (.int .i64 x.ld)
 c11:W.cell? ⟨g,11,none⟩=some (.int .i64 x.mn)
 c12:W.cell? ⟨g,12,none⟩=some (.int .i64 x.md)
 c13:W.cell? ⟨g,13,none⟩=some (.int .i64 x.policy)
theorem ChkAt.below {W a:World}{g:Nat}{x:Chk}{A:Option Addr}{n c:Nat}{A':Option Addr}{n' c':Nat}{A'':Option Addr}{n'' c'':Nat}(h:ChkAt W g x A n c A' n' c' A'' n'' c'')(hb:Below W.heap.size W a):ChkAt a g x A n c A' n' c' A'' n'' c'':=
 ⟨fO hb (lt_of_cell h.c0) h.c0,fO hb (lt_of_cell h.c1) h.c1,fO hb (lt_of_cell h.c2) h.c2,fO hb (lt_of_cell h.c3) h.c3,fO hb (lt_of_cell h.c4) h.c4,fO hb (lt_of_cell h.c5) h.c5,fO hb (lt_of_cell h.c6) h.c6,fO hb (lt_of_cell h.c7) h.c7,fO hb (lt_of_cell h.c8) h.c8,fO hb (lt_of_cell h.c9) h.c9,fO hb (lt_of_cell h.c10) h.c10,fO hb (lt_of_cell h.c11) h.c11,fO hb (lt_of_cell h.c12) h.c12,fO hb (lt_of_cell h.c13) h.c13⟩
theorem Kr (W:World)(gc gr h:Nat)(x:Chk)(A:Option Addr)(n c:Nat)(A':Option Addr)(n' c':Nat)(A'':Option Addr)(n'' c'':Nat)(F:ChkAt W gc x A n c A' n' c' A'' n'' c'')(a:Option Addr)(f c1:Nat)(cols:List Col)(G:W.cell? ⟨gr,1,none⟩=some (.slice a f c1))(A2:Option Addr)(n2 c2:Nat)(zs:List Zone)(H:W.cell? ⟨h,0,none⟩=some (.slice A2 n2 c2))(j:In W A'' n'' c'' x.cond)(hw:Words W)(i:In W a f c1 cols)(l:In W A2 n2 c2 zs)(b:Option Addr)(g d:Nat)(row:List Val)(k:In W b g d row):
  Calls Tryz.prog 124 #[.slice b g d,.pointer (some ⟨gc,0,none⟩),.pointer (some ⟨gr,0,none⟩),.pointer (some ⟨h,0,none⟩)] W
   λe w'=>e=.returned (.bool (!qQ x.cond cols row zs))/\Below W.heap.size W w':=by
 have p:=Hm (IY W x A n c A' n' c' A'' n'' c'' j hw a f c1 cols i b g d row k A2 n2 c2 zs l);obtain⟨q,r,w,y,g4,z,B,C,D,E,s,t,u,v⟩:=F;clear j hw i l k;go_enter Tryz.func124,Tryz.ntmps124;go_wp2_with fail;refine p.o.mono ?_;rintro e I ⟨rfl,hb⟩;have m:=Hm hb;clear hb q r w y g4 z B C D E s t u v;go_wp2;go_ret;exact⟨rfl,m.o⟩
theorem Ls (W:World)(v:Value):Calls Tryz.prog 126 #[v] W λe w'=>e=.returned (.bool false)/\Below W.heap.size W w':=by
 go_enter Tryz.func126,Tryz.ntmps126;go_wp2;go_ret;exact⟨rfl,Below.refl _ _⟩
end Go.Proofs.YtopjjlmfilgngaaGreatDoor
