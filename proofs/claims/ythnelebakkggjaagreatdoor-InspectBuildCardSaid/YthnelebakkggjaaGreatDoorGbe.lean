/-
  warehouseref28.UsesOther, table, holds. (Printed by gen_valr.py.) warehouseref28.Validate. (Printed by gen_valr.py.)
-/
import Derived.Test.YthnelebakkggjaaGreatDoorGbc
import Derived.Test.YthnelebakkggjaaGreatDoorGbb
namespace Go.Proofs.YthnelebakkggjaaGreatDoor
set_option maxHeartbeats 4000000
set_option maxRecDepth 100000
open Go.RowKit
set_option linter.unusedSimpArgs false
set_option linter.unusedVariables false
theorem pQ (w:World)(x:Chk)(A:Option Addr)(n c:Nat)(A':Option Addr)(n' c':Nat)(A'':Option Addr)(n'' c'':Nat):Calls Tryz.prog 22 #[.agg (eP x A n c A' n' c' A'' n'' c'').toArray] w λe w'=>e=.returned (.bool (jk x.kind))/\Below w.heap.size w w':=by
 rw[jk];simp only[eP];cases t:(x.kind==3)
 ·go_enter Tryz.func22,Tryz.ntmps22;go_wp2_with fail;obtain⟨j,a⟩: ∃W,W=w.alloc (.cells #[.string x.name,.string x.table,.int .i64 x.kind,.slice A n c,.string x.other,.slice A' n' c',.int .i64 x.low,.int .i64 x.high,.slice A'' n'' c'',.int .i64 x.ln,.int .i64 x.ld,.int .i64 x.mn,.int .i64 x.md,.int .i64 x.policy] 27):=⟨_,rfl⟩;obtain⟨b,i,d,g1,g2,g3,g4,g5,g6,q,r,s,k,l,m,p⟩:=gZ a rfl;rw[<-a];clear a;have g:=Hm b;clear b;have f:=lt_of_cell d;go_wp2;go_ret;exact⟨eU II,g.o⟩
 ·go_enter Tryz.func22,Tryz.ntmps22;go_wp2_with fail;obtain⟨j,a⟩: ∃W,W=w.alloc (.cells #[.string x.name,.string x.table,.int .i64 x.kind,.slice A n c,.string x.other,.slice A' n' c',.int .i64 x.low,.int .i64 x.high,.slice A'' n'' c'',.int .i64 x.ln,.int .i64 x.ld,.int .i64 x.mn,.int .i64 x.md,.int .i64 x.policy] 27):=⟨_,rfl⟩;obtain⟨b,i,d,g1,g2,g3,g4,g5,g6,q,r,s,k,l,m,p⟩:=gZ a rfl;rw[<-a];clear a;have h:=Hm b;clear b;have f:=lt_of_cell d;go_wp2;go_ret;exact⟨eU II,h.o⟩
theorem GJ (w:World)(x:Chk)(A:Option Addr)(n c:Nat)(A':Option Addr)(n' c':Nat)(A'':Option Addr)(n'' c'':Nat)(g:In w A'' n'' c'' x.cond)(j:Option Addr)(K c1:Nat)(cols:List Col)(f:In w j K c1 cols)(k:Option Addr)(L c2:Nat)(zs:List Zone)(i:In w k L c2 zs)(A3:Option Addr)(n3 c3:Nat)(row:List Val)(h:In w A3 n3 c3 row):
  Calls Tryz.prog 74 #[.agg (eP x A n c A' n' c' A'' n'' c'').toArray,.slice j K c1,.slice k L c2,.slice A3 n3 c3] w λe w'=>e=.returned (.bool (qO x.cond cols row zs))/\Below w.heap.size w w':=by
 have p:=Hm λW g f h i=>IY W A'' n'' c'' x.cond g j K c1 cols f A3 n3 c3 row h k L c2 zs i;have t:=Hm (l9 (xx x.cond cols row zs));have a:=Hm (show qO x.cond cols row zs=((kT x.cond cols row zs).1==0&&truth (kT x.cond cols row zs).2==1) from rfl);obtain⟨R,H⟩: ∃R,qO x.cond cols row zs=R:=⟨_,rfl⟩;obtain⟨E,U⟩: ∃E,kT x.cond cols row zs=E:=⟨_,rfl⟩;rw[H]at a;rw[U]at p t a;rw[H];clear H U;obtain⟨Q,M,N,vs⟩:=E;simp only[Val.cells]at p t a;simp only[eP];go_enter Tryz.func74,Tryz.ntmps74;have r:=Hm g;clear g;have m:=Hm f;clear f;have s:=Hm h;clear h;have u:=Hm i;clear i;go_wp2_with fail;obtain⟨W1,I⟩: ∃W,W=w.alloc (.cells #[.string x.name,.string x.table,.int .i64 x.kind,.slice A n c,.string x.other,.slice A' n' c',.int .i64 x.low,.int .i64 x.high,.slice A'' n'' c'',.int .i64 x.ln,.int .i64 x.ld,.int .i64 x.mn,.int .i64 x.md,.int .i64 x.policy] 27):=⟨_,rfl⟩;obtain⟨d,Z,v,g1,g2,g3,g4,g5,g6,D,F,G,y,z,B,C⟩:=gZ I rfl;rw[<-I];clear I;have r:=Hm (r.o.b d);have m:=Hm (m.o.b d);have s:=Hm (s.o.b d);have u:=Hm (u.o.b d);have Y:=Hm d;clear d;have O:=lt_of_cell v;refine(p.o _ r.o m.o s.o u.o).mono ?_;rintro e w4 ⟨rfl,J⟩;obtain⟨v,g1,g2,g3,g4,g5,g6,D,F,G,y,z,B,C,O⟩:=gB J O v g1 g2 g3 g4 g5 g6 D F G y z B C;have P:=Hm (eu Y.o J);clear J;clear g1 g2 g3 g4 g5 g6 D F G y z B C;by_cases S:Q=0
 ·subst S;go_wp2_with fail;refine(sF ⟨M,N,vs⟩ t.o _).mono ?_;rintro e w3 ⟨rfl,X⟩;have l:=Hm (eu P.o (eu eB X));obtain⟨T,V⟩: ∃T,truth ⟨M,N,vs⟩=T:=⟨_,rfl⟩;rw[V]at a⊢;clear V X;go_wp2;go_ret;exact⟨eU (by rw[a.o];simp),l.o⟩
 ·have q:(Q==0)=false:=by simpa using S
  obtain rfl:R=false:=by rw[a.o,q];rfl
  have l:=Hm (eu P.o (eB (o:=.cells #[.int .i64 M,.int .i64 N,.string vs] 67)));go_wp2;all_goals(try(exfalso;go_light;simp_all;done));go_ret;exact⟨rfl,l.o⟩
theorem Bp (w:World)(nm:ByteArray)(A:Option Addr)(n c:Nat)(cols:List Col)(Q:In w A n c cols)(A':Option Addr)(n' c':Nat)(l:Option Addr)(d c2:Nat)(rows:List Ent)(G:In w l d c2 rows):
  Calls Tryz.prog 71 #[.agg #[.string nm,.slice A n c,.slice A' n' c',.slice l d c2]] w λe w'=>e=.returned (.int .i64 (ji cols rows))/\Below w.heap.size w w':=by
 have p:=Hm (show ji cols rows=if fA rows≠0 then fA rows else if jE rows=false then 8 else eH (λ_ x=>fB cols x.row) 0 rows from rfl);obtain⟨R,D⟩: ∃R,ji cols rows=R:=⟨_,rfl⟩;rw[D]at p;rw[D];clear D;have al:=G.le;go_enter Tryz.func71,Tryz.ntmps71;have f:=Hm Q;clear Q;have a:=Hm G;clear G;go_wp2_with fail;obtain⟨W1,F⟩: ∃W,W=w.alloc (.cells #[.string nm,.slice A n c,.slice A' n' c',.slice l d c2] 32):=⟨_,rfl⟩;obtain⟨r,ak,j,g1,g2,g3⟩:=lM F rfl;rw[<-F];clear F;have f:=Hm (f.o.b r);have a:=Hm (a.o.b r);have ah:=Hm r;clear r;have g:=lt_of_cell j;obtain⟨B,C⟩: ∃B,fA rows=B:=⟨_,rfl⟩;have aa:=Hm C;obtain⟨T,E⟩: ∃T,jE rows=T:=⟨_,rfl⟩;have ag:=Hm E;rw[C,E]at p;clear C E;refine(FT _ l d c2 rows a.o).mono ?_;rintro e w7 ⟨rfl,q⟩;have f:=Hm (f.o.b q);have a:=Hm (a.o.b q);obtain⟨j,g1,g2,g3,g⟩:=iD q g j g1 g2 g3;have M:=Hm (eu ah.o q);clear q;rw[aa.o];by_cases z:B=0
 ·subst z;go_wp2_with fail;refine(Df _ l d c2 rows a.o).mono ?_;rintro e U ⟨rfl,h⟩;have f:=Hm (f.o.b h);have a:=Hm (a.o.b h);obtain⟨j,g1,g2,g3,g⟩:=iD h g j g1 g2 g3;have u:=Hm (eu M.o h);clear h;rw[ag.o];cases T
  ·obtain rfl:R=8:=by rw[p.o];simp
   go_wp2;all_goals(try(exfalso;go_light;simp_all;done));go_ret;exact⟨rfl,u.o⟩
  ·have K:Hl (R=eH (λ_ x=>fB cols x.row) 0 rows):=Hm (by rw[p.o];simp);obtain⟨N,rfl⟩: ∃W,W=U:=⟨_,rfl⟩;go_wp2;go_loopw [4] (λi wr=> ∃k:Nat,k<=d/\i=.int .i64 k/\eH (λ_ x=>fB cols x.row) 0 rows=eH (λ_ x=>fB cols x.row) k (rows.drop k)/\Below N.heap.size N wr) (λi _=>d-(RowKit.intOf i).toNat)
   case atStart=>exact⟨0,Nat.zero_le _,rfl,rfl,IJ⟩
   case round=>
    obtain⟨k,hk,rfl,S,hb⟩:=hrel;have t:=Hm S;clear S;have f:=Hm (f.o.b hb);have a:=Hm (a.o.b hb);obtain⟨j,g1,g2,g3,g⟩:=iD hb g j g1 g2 g3;have v:=Hm hb;clear hb;by_cases aj:k<d
    ·obtain⟨b,off,y,rfl,ai,L,J,I,H,O,e1,P,e3⟩:=a.o.ent aj;have k0:(0:Int)<=(k:Int):=by omega
     have k1:(k:Int)<(d:Int):=by omega
     have HI:=Hm P;have ad:=Hm ai;have X:=Hm O;have Y:=Hm g1;have Z:=Hm g3;clear e1 P;have af:=Hm v.o;have ac:=Hm (eu u.o v.o);go_wp2;go_region_held3 (λV=>V.cell? ⟨w.heap.size,1,none⟩=some (.slice A n c)/\V.cell? ⟨w.heap.size,3,none⟩=some (.slice (some ⟨b,off,none⟩) d c2)/\V.cell? ⟨b,off+k*2,none⟩=some (.slice J I H))
      (first|exact⟨eG m.o g Y.o,eG m.o g Z.o,eG m.o ad.o X.o⟩|exact⟨g1,g3,O⟩|go_keep)
      (first|(go_at_call 106;refine(vC _ A J n I c H cols y.row (by exact f.o.b (IJ).drew) (by exact HI.o.b (IJ).drew)).mono ?_;rintro e U ⟨rfl,h⟩;have m:=Hm (eF h);clear h))
     have ae:=Hm (eu af.o m.o);have ab:=Hm (eu ac.o m.o);by_cases s:fB cols y.row=0
     ·rw[s];have HN:Hl (eH (λ_ x=>fB cols x.row) 0 rows=eH (λ_ x=>fB cols x.row) (k+1) (rows.drop (k+1))):=Hm (by rw[t.o,L.o];exact gG s);go_wp2;go_roundw
      case rel=>exact⟨k+1,Ho,by go_num,HN.o,ae.o⟩
      case measure=>simp[RowKit.intOf];omega
     ·have am:(fB cols y.row != 0)=true:=by simpa using s
      obtain rfl:R=fB cols y.row:=by rw[K.o,t.o,L.o];exact fI rfl s
      go_wp2;all_goals(try(exfalso;go_light;simp_all;done));go_ret;exact⟨rfl,ab.o⟩
    ·obtain rfl:R=0:=by rw[K.o,t.o,fG a.o.len Ho,eH]
     go_wp2;all_goals(try(exfalso;go_light;simp_all;done));go_ret;exact⟨rfl,(eu u.o v.o)⟩
 ·have q0:(B != 0)=true:=by simpa using z
  obtain rfl:R=B:=by rw[p.o];simp[z]
  go_wp2;all_goals(try(exfalso;go_light;simp_all;done));go_ret;exact⟨rfl,M.o⟩
def mM (x:Chk):Prop:=¬(x.kind<0\/6<x.kind\/x.policy<0\/2<x.policy)/\¬(x.policy=0/\(x.kind=5\/x.kind=6))
theorem mM.dec {x:Chk}(h:mM x):decide (x.kind<0)=false/\decide (6<x.kind)=false/\decide (x.policy<0)=false/\decide (2<x.policy)=false:=by
 obtain⟨a,_⟩:=h;refine⟨?_,?_,?_,?_⟩<;>simp<;>omega
theorem zJ (w:World)(x:Chk)(A:Option Addr)(n c:Nat)(A':Option Addr)(n' c':Nat)(A'':Option Addr)(n'' c'':Nat)(i k N:Value)(h:¬mM x)(cols j:List Col)(zs:List Zone):
  Calls Tryz.prog 70 #[.agg (eP x A n c A' n' c' A'' n'' c'').toArray,i,k,N] w λe w'=>e=.returned (.int .i64 (gF x cols j zs))/\Below w.heap.size w w':=by
 have S:(decide (x.kind<0)=true/\gF x cols j zs=1)\/(decide (x.kind<0)=false/\decide (6<x.kind)=true/\gF x cols j zs=1)\/(decide (x.kind<0)=false/\decide (6<x.kind)=false/\decide (x.policy<0)=true/\gF x cols j zs=1)
   \/(decide (x.kind<0)=false/\decide (6<x.kind)=false/\decide (x.policy<0)=false/\decide (2<x.policy)=true/\gF x cols j zs=1)
   \/(decide (x.kind<0)=false/\decide (6<x.kind)=false/\decide (x.policy<0)=false/\decide (2<x.policy)=false/\(((x.policy==0)=true/\(x.kind==5)=true/\gF x cols j zs=7)\/((x.policy==0)=true/\(x.kind==5)=false/\(x.kind==6)=true/\gF x cols j zs=7))):=by
  by_cases i:x.kind<0
  ·exact .inl ⟨by simpa using i,by rw[gF,if_pos (.inl i)]⟩
  by_cases k:6<x.kind
  ·exact .inr (.inl ⟨by simpa using i,by simpa using k,by rw[gF,if_pos (.inr (.inl k))]⟩)
  by_cases B:x.policy<0
  ·exact .inr (.inr (.inl ⟨by simpa using i,by simpa using k,by simpa using B,by rw[gF,if_pos (.inr (.inr (.inl B)))]⟩))
  by_cases D:2<x.policy
  ·exact .inr (.inr (.inr (.inl ⟨by simpa using i,by simpa using k,by simpa using B,by simpa using D,by rw[gF,if_pos (.inr (.inr (.inr D)))]⟩)))
  have b:¬(x.kind<0\/6<x.kind\/x.policy<0\/2<x.policy):=by omega
  have d:x.policy=0/\(x.kind=5\/x.kind=6):=by
   rw[mM]at h;exact Classical.byContradiction λq=>h ⟨b,q⟩
  refine .inr (.inr (.inr (.inr ⟨by simpa using i,by simpa using k,by simpa using B,by simpa using D,?_⟩)));by_cases F:x.kind=5
  ·exact .inl ⟨by simpa using d.1,by simpa using F,by rw[gF,if_neg b,if_pos d]⟩
  ·exact .inr ⟨by simpa using d.1,by simpa using F,by have:=d.2;simp;omega,by rw[gF,if_neg b,if_pos d]⟩
 clear h;generalize gF x cols j zs=R at*;simp only[eP];rcases S with ⟨C,rfl⟩|⟨C,E,rfl⟩|⟨C,E,G,rfl⟩|⟨C,E,G,O,rfl⟩|⟨C,E,G,O,⟨P,Q,rfl⟩|⟨P,Q,T,rfl⟩⟩
 ·go_enter Tryz.func70,Tryz.ntmps70;go_wp2_with fail;obtain⟨p,a⟩: ∃W,W=w.alloc (.cells #[.string x.name,.string x.table,.int .i64 x.kind,.slice A n c,.string x.other,.slice A' n' c',.int .i64 x.low,.int .i64 x.high,.slice A'' n'' c'',.int .i64 x.ln,.int .i64 x.ld,.int .i64 x.mn,.int .i64 x.md,.int .i64 x.policy] 27):=⟨_,rfl⟩;obtain⟨f,m,g,g1,g2,g3,g4,g5,g6,v,y,z,r,s,t,u⟩:=gZ a rfl;rw[<-a];clear a;have H:=Hm f;clear f;have l:=lt_of_cell g;go_wp2;all_goals(try(exfalso;go_light;simp_all;done));go_ret;exact⟨rfl,H.o⟩
 ·go_enter Tryz.func70,Tryz.ntmps70;go_wp2_with fail;obtain⟨p,a⟩: ∃W,W=w.alloc (.cells #[.string x.name,.string x.table,.int .i64 x.kind,.slice A n c,.string x.other,.slice A' n' c',.int .i64 x.low,.int .i64 x.high,.slice A'' n'' c'',.int .i64 x.ln,.int .i64 x.ld,.int .i64 x.mn,.int .i64 x.md,.int .i64 x.policy] 27):=⟨_,rfl⟩;obtain⟨f,m,g,g1,g2,g3,g4,g5,g6,v,y,z,r,s,t,u⟩:=gZ a rfl;rw[<-a];clear a;have I:=Hm f;clear f;have l:=lt_of_cell g;go_wp2;all_goals(try(exfalso;go_light;simp_all;done));go_ret;exact⟨rfl,I.o⟩
 ·go_enter Tryz.func70,Tryz.ntmps70;go_wp2_with fail;obtain⟨p,a⟩: ∃W,W=w.alloc (.cells #[.string x.name,.string x.table,.int .i64 x.kind,.slice A n c,.string x.other,.slice A' n' c',.int .i64 x.low,.int .i64 x.high,.slice A'' n'' c'',.int .i64 x.ln,.int .i64 x.ld,.int .i64 x.mn,.int .i64 x.md,.int .i64 x.policy] 27):=⟨_,rfl⟩;obtain⟨f,m,g,g1,g2,g3,g4,g5,g6,v,y,z,r,s,t,u⟩:=gZ a rfl;rw[<-a];clear a;have J:=Hm f;clear f;have l:=lt_of_cell g;go_wp2;all_goals(try(exfalso;go_light;simp_all;done));go_ret;exact⟨rfl,J.o⟩
 ·go_enter Tryz.func70,Tryz.ntmps70;go_wp2_with fail;obtain⟨p,a⟩: ∃W,W=w.alloc (.cells #[.string x.name,.string x.table,.int .i64 x.kind,.slice A n c,.string x.other,.slice A' n' c',.int .i64 x.low,.int .i64 x.high,.slice A'' n'' c'',.int .i64 x.ln,.int .i64 x.ld,.int .i64 x.mn,.int .i64 x.md,.int .i64 x.policy] 27):=⟨_,rfl⟩;obtain⟨f,m,g,g1,g2,g3,g4,g5,g6,v,y,z,r,s,t,u⟩:=gZ a rfl;rw[<-a];clear a;have K:=Hm f;clear f;have l:=lt_of_cell g;go_wp2;all_goals(try(exfalso;go_light;simp_all;done));go_ret;exact⟨rfl,K.o⟩
 ·go_enter Tryz.func70,Tryz.ntmps70;go_wp2_with fail;obtain⟨p,a⟩: ∃W,W=w.alloc (.cells #[.string x.name,.string x.table,.int .i64 x.kind,.slice A n c,.string x.other,.slice A' n' c',.int .i64 x.low,.int .i64 x.high,.slice A'' n'' c'',.int .i64 x.ln,.int .i64 x.ld,.int .i64 x.mn,.int .i64 x.md,.int .i64 x.policy] 27):=⟨_,rfl⟩;obtain⟨f,m,g,g1,g2,g3,g4,g5,g6,v,y,z,r,s,t,u⟩:=gZ a rfl;rw[<-a];clear a;have L:=Hm f;clear f;have l:=lt_of_cell g;go_wp2;all_goals(try(exfalso;go_light;simp_all;done));go_ret;exact⟨rfl,L.o⟩
 ·go_enter Tryz.func70,Tryz.ntmps70;go_wp2_with fail;obtain⟨p,a⟩: ∃W,W=w.alloc (.cells #[.string x.name,.string x.table,.int .i64 x.kind,.slice A n c,.string x.other,.slice A' n' c',.int .i64 x.low,.int .i64 x.high,.slice A'' n'' c'',.int .i64 x.ln,.int .i64 x.ld,.int .i64 x.mn,.int .i64 x.md,.int .i64 x.policy] 27):=⟨_,rfl⟩;obtain⟨f,m,g,g1,g2,g3,g4,g5,g6,v,y,z,r,s,t,u⟩:=gZ a rfl;rw[<-a];clear a;have M:=Hm f;clear f;have l:=lt_of_cell g;go_wp2;all_goals(try(exfalso;go_light;simp_all;done));go_ret;exact⟨rfl,M.o⟩
section
variable (w:World)(x:Chk)(A:Option Addr)(n c:Nat)(u:In w A n c x.cols)(A':Option Addr)(n' c':Nat)(y:In w A' n' c' x.ocols)(A'':Option Addr)(n'' c'':Nat)(g:In w A'' n'' c'' x.cond)(j:Option Addr)(d c1:Nat)(cols:List Col)(t:In w j d c1 cols)(l:Option Addr)(f c2:Nat)(a:List Col)(z:In w l f c2 a)(p:Option Addr)(n5 r:Nat)(zs:List Zone)
include w x A n c u A' n' c' y A'' n'' c'' g j d c1 cols t l f c2 a z p n5 r zs
theorem wy (hz:In w p n5 r zs)(bb:n<=4096)(V:n'<=4096)(bm:d<=4096)(bn:f<=4096)(hp:mM x)(h4:¬x.kind=4)(h5:¬x.kind=5)(hw:(((x.policy==0)=true/\(x.kind==6)=false/\(x.kind==2)=true)\/((x.policy==0)=false/\(x.kind==2)=true))):
  Calls Tryz.prog 70 #[.agg (eP x A n c A' n' c' A'' n'' c'').toArray,.slice j d c1,.slice l f c2,.slice p n5 r] w λe w'=>e=.returned (.int .i64 (gF x cols a zs))/\Below w.heap.size w w':=by
 have _:=g;rcases hw with ⟨p0,h6,h2⟩|⟨p0,h2⟩
 all_goals(
  have H:=Hm (show gF x cols a zs=if fq cols≠0 then fq cols else nA x cols a from by
   rw[kV x cols a zs hp.1 hp.2];have:l8 x.kind=false:=by rw[l8];simp[h4,h5]
   rw[this];simp)
  rw[rP x cols a]at H;have am:=Hm λW hx hy=>lU W j d c1 cols hx A n c x.cols hy Ho Ho;have an:=Hm λW hx hy=>lU W l f c2 a hx A' n' c' x.ocols hy Ho Ho;have ah:=Hm (λh=>oJ (cols:=cols) (names:=x.cols) h);have aq:=Hm (λh=>oJ (cols:=a) (names:=x.ocols) h);have aT:=Hm (Nat.le_trans (lV cols x.cols) (by rw[u.len];exact bb));have aU:=Hm (Nat.le_trans (lV a x.ocols) (by rw[y.len];exact V));have aR:=Hm t.len;have ba:=Hm z.len;obtain⟨R,hR⟩: ∃R,gF x cols a zs=R:=⟨_,rfl⟩;obtain⟨I1,ay⟩: ∃I,gK cols x.cols=I:=⟨_,rfl⟩;obtain⟨I2,az⟩: ∃I,gK a x.ocols=I:=⟨_,rfl⟩;obtain⟨U,hU⟩: ∃U,jk x.kind=U:=⟨_,rfl⟩;rw[hR,ay,az,hU]at H;rw[ay]at am ah aT;rw[az]at an aq aU;rw[hR];have HU:=Hm hU;clear hR ay az hU;obtain⟨ie,is⟩:=I1;obtain⟨oe,F⟩:=I2;simp only at H am an ah aq aT aU;obtain⟨K0,aA⟩: ∃K,(cols.getD (is.getD 0 0).toNat default).kind=K:=⟨_,rfl⟩;rw[aA]at H;have a9:=Hm aA;clear aA;obtain⟨X,ax⟩: ∃X,fq a=X:=⟨_,rfl⟩;rw[ax]at H;have a8:=Hm ax;obtain⟨C1,aw⟩: ∃X,fq cols=X:=⟨_,rfl⟩;rw[aw]at H;have a7:=Hm aw;obtain⟨sg,aQ⟩: ∃s,(x.kind==2 || x.kind==6)=s:=⟨_,rfl⟩;rw[aQ]at H;clear ax aw;obtain rfl:sg=true:=by rw[<-aQ,h2];rfl
  obtain⟨d1,d2,d3,d4⟩:=hp.dec;have e4:(x.kind==4)=false:=by simpa using h4
  have e5:(x.kind==5)=false:=by simpa using h5
  clear aQ h4 h5 hp;simp only[eP];go_enter Tryz.func70,Tryz.ntmps70;have C:=Hm u;clear u;have aa:=Hm y;clear y;have B:=Hm t;clear t;have D:=Hm z;clear z;go_wp2_with fail;obtain⟨W1,aB⟩: ∃W,W=w.alloc (.cells #[.string x.name,.string x.table,.int .i64 x.kind,.slice A n c,.string x.other,.slice A' n' c',.int .i64 x.low,.int .i64 x.high,.slice A'' n'' c'',.int .i64 x.ln,.int .i64 x.ld,.int .i64 x.mn,.int .i64 x.md,.int .i64 x.policy] 27):=⟨_,rfl⟩;obtain⟨ae,be,E,g1,g2,g3,g4,g5,g6,Q,S,T,M,N,O,P⟩:=gZ aB rfl;rw[<-aB];clear aB;have C:=Hm (C.o.b ae);have aa:=Hm (aa.o.b ae);have B:=Hm (B.o.b ae);have D:=Hm (D.o.b ae);have aZ:=Hm ae;clear ae;have Y:=lt_of_cell E;go_wp2_with fail;refine(mG _ j d c1 cols B.o).mono ?_;rintro e w6 ⟨rfl,rfl⟩;rw[a7.o];by_cases aC:C1=0;rotate_left
  ·have q0:(C1 != 0)=true:=by simpa using aC
   obtain rfl:R=C1:=by rw[H.o,if_pos aC]
   go_wp2;all_goals(try(exfalso;go_light;simp_all;done));go_ret;exact⟨rfl,aZ.o⟩
  subst aC;have G:=Hm (show R=ic true U ie is K0 X oe F ((List.zip is F).any (qo cols a)) from by rw[H.o];simp);go_wp2_with fail;refine(am.o _ (by exact B.o) (by exact C.o)).mono ?_;rintro e w1 ⟨⟨v,rfl,aL⟩,V⟩;obtain⟨A4,c4,rfl⟩:=aL.form;obtain⟨m,hm⟩: ∃m,is.length=m:=⟨_,rfl⟩;have aH:=iy aL rfl;rw[hm]at aH⊢;have L:=Hm hm;clear aL hm;have C:=Hm (C.o.b V);have aa:=Hm (aa.o.b V);have B:=Hm (B.o.b V);have D:=Hm (D.o.b V);obtain⟨E,g1,g2,g3,g4,g5,g6,Q,S,T,M,N,O,P,Y⟩:=gB V Y E g1 g2 g3 g4 g5 g6 Q S T M N O P;have af:=Hm (eu aZ.o V);clear V;have J:=Hm aH;clear aH;by_cases h0:ie=0;rotate_left
  ·have q0:(ie != 0)=true:=by simpa using h0
   obtain rfl:R=ie:=by rw[G.o,ic,if_pos h0]
   go_wp2;all_goals(try(exfalso;go_light;simp_all;done));go_ret;exact⟨rfl,af.o⟩
  subst h0;by_cases aJ:m=0
  ·subst aJ;obtain rfl:R=8:=by rw[G.o,ic];simp[L.o]
   go_wp2;all_goals(try(exfalso;go_light;simp_all;done));go_ret;exact⟨rfl,af.o⟩
  have qz:((m:Int)==0)=false:=by simpa using aJ
  have ad:=Hm aJ;by_cases a4:1<m
  ·have q1:decide (1<(m:Int))=true:=by simp;omega
   obtain rfl:R=8:=by rw[G.o,ic];simp[L.o,a4]
   go_wp2;all_goals(try(exfalso;go_light;simp_all;done));go_ret;exact⟨rfl,af.o⟩
  have q1:decide (1<(m:Int))=false:=by simp;omega
  have ac:=Hm a4;obtain⟨b0,o0,j0,rfl,bh,ar,e0,_⟩:=J.o.int (k:=0) Ho;rw[Nat.add_zero]at e0;have aN:=ah.o (by first|rfl|trivial) j0 (fE ar.o);rw[aR.o]at aN;obtain⟨i0,rfl⟩: ∃i:Nat,j0=(i:Int):=⟨j0.toNat,Ho⟩;obtain⟨bc,oc,y0,rfl,bl,aV,_,p0,_,_⟩:=B.o.col (k:=i0) Ho;have bo:(0:Int)<=(i0:Int):=by omega
  have bp:(i0:Int)<(d:Int):=aN.2;have bx:(0:Int)<(m:Int):=by omega
  obtain⟨k5,aF⟩: ∃q,y0.kind=q:=⟨_,rfl⟩;have e5:K0=k5:=by
   rw[<-a9.o,jD ar.o,<-aF];simp only[Int.toNat_natCast];rw[jD aV.o]
  rw[aF]at p0;subst e5;clear aF aN ar aV;by_cases aE:K0=2;rotate_left
  ·have q2:(K0 != 2)=true:=by simpa using aE
   obtain rfl:R=7:=by rw[G.o,ic];simp[L.o,ad.o,ac.o,aE]
   go_wp2;all_goals(try(exfalso;go_light;simp_all;done));go_ret;exact⟨rfl,af.o⟩
  subst aE;have q2:((2:Int) != 2)=false:=by decide
  go_wp2_with fail;refine(pQ _ x A n c A' n' c' A'' n'' c'').mono ?_;rintro e w9 ⟨rfl,Z⟩;have C:=Hm (C.o.b Z);have aa:=Hm (aa.o.b Z);have B:=Hm (B.o.b Z);have D:=Hm (D.o.b Z);have J:=Hm (J.o.b Z);obtain⟨E,g1,g2,g3,g4,g5,g6,Q,S,T,M,N,O,P,Y⟩:=gB Z Y E g1 g2 g3 g4 g5 g6 Q S T M N O P;have au:=Hm (eu af.o Z);clear Z;rw[HU.o];cases U
  ·obtain rfl:R=0:=by rw[G.o,ic];simp[L.o,ad.o,ac.o]
   go_wp2;all_goals(try(exfalso;go_light;simp_all;done));go_ret;exact⟨rfl,au.o⟩
  go_wp2_with fail;refine(mG _ l f c2 a D.o).mono ?_;rintro e w6 ⟨rfl,rfl⟩;rw[a8.o];by_cases aD:X=0
  ·subst aD;go_wp2_with fail;refine(an.o _ (by exact D.o) (by exact aa.o)).mono ?_;rintro e w7 ⟨⟨v2,rfl,aM⟩,ab⟩;obtain⟨p,r,rfl⟩:=aM.form;obtain⟨m2,aI⟩: ∃m,F.length=m:=⟨_,rfl⟩;have aG:=iy aM rfl;rw[aI]at aG⊢;have ap:=Hm aI;clear aM aI;have C:=Hm (C.o.b ab);have B:=Hm (B.o.b ab);have D:=Hm (D.o.b ab);have J:=Hm (J.o.b ab);obtain⟨E,g1,g2,g3,g4,g5,g6,Q,S,T,M,N,O,P,Y⟩:=gB ab Y E g1 g2 g3 g4 g5 g6 Q S T M N O P;have ai:=Hm (eu au.o ab);clear ab;have ao:=Hm aG;clear aG;by_cases aK:oe=0
   ·subst aK;by_cases a5:m=m2
    ·subst a5;have aS:Hl (R=if (List.zip is F).any (qo cols a)=true then 7 else 0):=Hm (by rw[G.o,ic];simp[L.o,ad.o,ac.o,ap.o]);obtain⟨W5,rfl⟩: ∃W,W=w7:=⟨_,rfl⟩;have bf:=J.o.le;go_wp2;go_loopw [20] (λi wr=> ∃k:Nat,k<=m/\i=.int .i64 k/\(List.zip is F).any (qo cols a)=((List.zip is F).drop k).any (qo cols a)/\Below W5.heap.size W5 wr) (λi _=>m-(RowKit.intOf i).toNat)
     case atStart=>exact⟨0,Nat.zero_le _,rfl,rfl,IJ⟩
     case round=>
      obtain⟨k,hk,rfl,a0,hb⟩:=hrel;have HE:=Hm a0;clear a0;have C:=Hm (C.o.b hb);have B:=Hm (B.o.b hb);have D:=Hm (D.o.b hb);have J:=Hm (J.o.b hb);have ao:=Hm (ao.o.b hb);obtain⟨E,g1,g2,g3,g4,g5,g6,Q,S,T,M,N,O,P,Y⟩:=gB hb Y E g1 g2 g3 g4 g5 g6 Q S T M N O P;have av:=Hm hb;clear hb;clear E g1 g2 g3 g4 g5 g6 Q S T M N O P;by_cases a3:k<m
      ·obtain⟨b,off,j1,ak,bg,HX,e0,_⟩:=J.o.int a3
       first|(subst ak)|(injection ak with ak;injection ak with hA5 hA6;subst hA5;subst hA6)
       obtain⟨b2,bu,j2,rfl,bi,HY,f0,_⟩:=ao.o.int a3;have aO:=ah.o (by first|rfl|trivial) j1 (fE HX.o);have aP:=aq.o (by first|rfl|trivial) j2 (fE HY.o);rw[aR.o]at aO;rw[ba.o]at aP;obtain⟨i1,rfl⟩: ∃i:Nat,j1=(i:Int):=⟨j1.toNat,Ho⟩;obtain⟨i2,rfl⟩: ∃i:Nat,j2=(i:Int):=⟨j2.toNat,Ho⟩;obtain⟨b3,bv,y1,aj,bj,aW,_,p1,_,_⟩:=B.o.col (k:=i1) Ho
       first|(subst aj)|(injection aj with aj;injection aj with hA7 hA8;subst hA7;subst hA8)
       obtain⟨b4,bw,y2,rfl,bk,aX,_,q1,_,_⟩:=D.o.col (k:=i2) Ho;have aY:Hl ((List.zip is F).drop k=((i1:Int),(i2:Int))::(List.zip is F).drop (k+1)):=Hm (by
        rw[List.zip,List.drop_zipWith,HX.o,HY.o,List.zipWith_cons_cons,List.drop_zipWith])
       have ag:Hl (qo cols a ((i1:Int),(i2:Int))=(y1.kind != y2.kind)):=Hm (by
        rw[qo];simp only[Int.toNat_natCast];rw[jD aW.o,jD aX.o])
       have k0:(0:Int)<=(k:Int):=by omega
       have k1:(k:Int)<(m:Int):=by omega
       have bq:(0:Int)<=(i1:Int):=by omega
       have br:(i1:Int)<(d:Int):=aO.2;have bs:(0:Int)<=(i2:Int):=by omega
       have bt:(i2:Int)<(f:Int):=aP.2;have a6:=Hm av.o;have al:=Hm (eu ai.o av.o);clear aO aP aW aX HX HY;obtain⟨k3,a1⟩: ∃q,y1.kind=q:=⟨_,rfl⟩;obtain⟨k4,a2⟩: ∃q,y2.kind=q:=⟨_,rfl⟩;rw[a1]at p1 ag;rw[a2]at q1 ag;clear a1 a2;go_wp2;go_quiet (fail);by_cases g:k3=k4
       ·subst g;have C:Hl ((List.zip is F).any (qo cols a)=((List.zip is F).drop (k+1)).any (qo cols a)):=Hm (by rw[HE.o,aY.o,List.any_cons,ag.o];simp);go_wp2;all_goals(try(exfalso;go_light;simp_all;done));go_roundw
        case rel=>exact⟨k+1,Ho,by go_num,C.o,below_drewN a6.o _⟩
        case measure=>simp[RowKit.intOf];omega
       ·have bd:(k3 != k4)=true:=by simpa using g
        obtain rfl:R=7:=by rw[aS.o,HE.o,aY.o,List.any_cons,ag.o,bd];simp
        go_wp2;all_goals(try(exfalso;go_light;simp_all;done));go_ret;exact⟨rfl,below_drewN al.o _⟩
      ·obtain rfl:R=0:=by rw[aS.o,HE.o,List.drop_eq_nil_of_le (by rw[List.length_zip,L.o,ap.o];omega)];rfl
       have al:=Hm (eu ai.o av.o);go_wp2;all_goals(try(exfalso;go_light;simp_all;done));go_ret;exact⟨rfl,al.o⟩
    ·have q5:((m:Int) != (m2:Int))=true:=by simp;omega
     obtain rfl:R=8:=by rw[G.o,ic];simp[L.o,ad.o,ac.o,ap.o,a5]
     go_wp2;all_goals(try(exfalso;go_light;simp_all;done));go_ret;exact⟨rfl,ai.o⟩
   ·have q4:(oe != 0)=true:=by simpa using aK
    obtain rfl:R=oe:=by rw[G.o,ic];simp[L.o,ad.o,ac.o,aK]
    go_wp2;all_goals(try(exfalso;go_light;simp_all;done));go_ret;exact⟨rfl,ai.o⟩
  ·have q3:(X != 0)=true:=by simpa using aD
   obtain rfl:R=X:=by rw[G.o,ic];simp[L.o,ad.o,ac.o,aD]
   go_wp2;all_goals(try(exfalso;go_light;simp_all;done));go_ret;exact⟨rfl,au.o⟩)
theorem wz (hz:In w p n5 r zs)(a3:n<=4096)(Q:n'<=4096)(bc:d<=4096)(bd:f<=4096)(hp:mM x)(h4:¬x.kind=4)(h5:¬x.kind=5)(hw:(((x.policy==0)=true/\(x.kind==6)=false/\(x.kind==2)=false)\/((x.policy==0)=false/\(x.kind==2)=false/\(x.kind==6)=false))):
  Calls Tryz.prog 70 #[.agg (eP x A n c A' n' c' A'' n'' c'').toArray,.slice j d c1,.slice l f c2,.slice p n5 r] w λe w'=>e=.returned (.int .i64 (gF x cols a zs))/\Below w.heap.size w w':=by
 have _:=g;rcases hw with ⟨p0,h6,h2⟩|⟨p0,h2,h6⟩
 all_goals(
  have G:=Hm (show gF x cols a zs=if fq cols≠0 then fq cols else nA x cols a from by
   rw[kV x cols a zs hp.1 hp.2];have:l8 x.kind=false:=by rw[l8];simp[h4,h5]
   rw[this];simp)
  rw[rP x cols a]at G;have aj:=Hm λW hx hy=>lU W j d c1 cols hx A n c x.cols hy Ho Ho;have ak:=Hm λW hx hy=>lU W l f c2 a hx A' n' c' x.ocols hy Ho Ho;have an:=Hm (λh=>oJ (cols:=cols) (names:=x.cols) h);have ao:=Hm (λh=>oJ (cols:=a) (names:=x.ocols) h);have aN:=Hm (Nat.le_trans (lV cols x.cols) (by rw[u.len];exact a3));have aO:=Hm (Nat.le_trans (lV a x.ocols) (by rw[y.len];exact Q));have a1:=Hm t.len;have a2:=Hm z.len;obtain⟨R,hR⟩: ∃R,gF x cols a zs=R:=⟨_,rfl⟩;obtain⟨I1,aw⟩: ∃I,gK cols x.cols=I:=⟨_,rfl⟩;obtain⟨I2,ax⟩: ∃I,gK a x.ocols=I:=⟨_,rfl⟩;obtain⟨U,hU⟩: ∃U,jk x.kind=U:=⟨_,rfl⟩;rw[hR,aw,ax,hU]at G;rw[aw]at aj an aN;rw[ax]at ak ao aO;rw[hR];have HU:=Hm hU;clear hR aw ax hU;obtain⟨ie,is⟩:=I1;obtain⟨oe,F⟩:=I2;simp only at G aj ak an ao aN aO;obtain⟨K0,ay⟩: ∃K,(cols.getD (is.getD 0 0).toNat default).kind=K:=⟨_,rfl⟩;rw[ay]at G;have a5:=Hm ay;clear ay;obtain⟨S,av⟩: ∃S,fq a=S:=⟨_,rfl⟩;rw[av]at G;have a0:=Hm av;obtain⟨C1,au⟩: ∃S,fq cols=S:=⟨_,rfl⟩;rw[au]at G;have aZ:=Hm au;obtain⟨sg,aL⟩: ∃s,(x.kind==2 || x.kind==6)=s:=⟨_,rfl⟩;rw[aL]at G;clear av au;obtain rfl:sg=false:=by rw[<-aL,h2,h6];rfl
  obtain⟨d1,d2,d3,d4⟩:=hp.dec;have e4:(x.kind==4)=false:=by simpa using h4
  have e5:(x.kind==5)=false:=by simpa using h5
  clear aL h4 h5 hp;simp only[eP];go_enter Tryz.func70,Tryz.ntmps70;have C:=Hm u;clear u;have aa:=Hm y;clear y;have B:=Hm t;clear t;have D:=Hm z;clear z;go_wp2_with fail;obtain⟨W1,az⟩: ∃W,W=w.alloc (.cells #[.string x.name,.string x.table,.int .i64 x.kind,.slice A n c,.string x.other,.slice A' n' c',.int .i64 x.low,.int .i64 x.high,.slice A'' n'' c'',.int .i64 x.ln,.int .i64 x.ld,.int .i64 x.mn,.int .i64 x.md,.int .i64 x.policy] 27):=⟨_,rfl⟩;obtain⟨ac,a6,E,g1,g2,g3,g4,g5,g6,N,O,P,H,J,L,M⟩:=gZ az rfl;rw[<-az];clear az;have C:=Hm (C.o.b ac);have aa:=Hm (aa.o.b ac);have B:=Hm (B.o.b ac);have D:=Hm (D.o.b ac);have aS:=Hm ac;clear ac;have V:=lt_of_cell E;go_wp2_with fail;refine(mG _ j d c1 cols B.o).mono ?_;rintro e w6 ⟨rfl,rfl⟩;rw[aZ.o];by_cases aA:C1=0;rotate_left
  ·have q0:(C1 != 0)=true:=by simpa using aA
   obtain rfl:R=C1:=by rw[G.o,if_pos aA]
   go_wp2;all_goals(try(exfalso;go_light;simp_all;done));go_ret;exact⟨rfl,aS.o⟩
  subst aA;have Y:=Hm (show R=ic false U ie is K0 S oe F ((List.zip is F).any (qo cols a)) from by rw[G.o];simp);go_wp2_with fail;refine(aj.o _ (by exact B.o) (by exact C.o)).mono ?_;rintro e w1 ⟨⟨v,rfl,aH⟩,Q⟩;obtain⟨A4,c4,rfl⟩:=aH.form;obtain⟨m,hm⟩: ∃m,is.length=m:=⟨_,rfl⟩;have aD:=iy aH rfl;rw[hm]at aD⊢;have Z:=Hm hm;clear aH hm;have C:=Hm (C.o.b Q);have aa:=Hm (aa.o.b Q);have B:=Hm (B.o.b Q);have D:=Hm (D.o.b Q);obtain⟨E,g1,g2,g3,g4,g5,g6,N,O,P,H,J,L,M,V⟩:=gB Q V E g1 g2 g3 g4 g5 g6 N O P H J L M;have ap:=Hm (eu aS.o Q);clear Q;have T:=Hm aD;clear aD;by_cases h0:ie=0;rotate_left
  ·have q0:(ie != 0)=true:=by simpa using h0
   obtain rfl:R=ie:=by rw[Y.o,ic,if_pos h0]
   go_wp2;all_goals(try(exfalso;go_light;simp_all;done));go_ret;exact⟨rfl,ap.o⟩
  subst h0;by_cases aF:m=0
  ·subst aF;obtain rfl:R=8:=by rw[Y.o,ic];simp[Z.o]
   go_wp2;all_goals(try(exfalso;go_light;simp_all;done));go_ret;exact⟨rfl,ap.o⟩
  have qz:((m:Int)==0)=false:=by simpa using aF
  have ad:=Hm aF;go_wp2_with fail;refine(pQ _ x A n c A' n' c' A'' n'' c'').mono ?_;rintro e bl ⟨rfl,X⟩;have C:=Hm (C.o.b X);have aa:=Hm (aa.o.b X);have B:=Hm (B.o.b X);have D:=Hm (D.o.b X);have T:=Hm (T.o.b X);obtain⟨E,g1,g2,g3,g4,g5,g6,N,O,P,H,J,L,M,V⟩:=gB X V E g1 g2 g3 g4 g5 g6 N O P H J L M;have aq:=Hm (eu ap.o X);clear X;rw[HU.o];cases U
  ·obtain rfl:R=0:=by rw[Y.o,ic];simp[Z.o,ad.o]
   go_wp2;all_goals(try(exfalso;go_light;simp_all;done));go_ret;exact⟨rfl,aq.o⟩
  go_wp2_with fail;refine(mG _ l f c2 a D.o).mono ?_;rintro e w6 ⟨rfl,rfl⟩;rw[a0.o];by_cases aB:S=0
  ·subst aB;go_wp2_with fail;refine(ak.o _ (by exact D.o) (by exact aa.o)).mono ?_;rintro e w7 ⟨⟨v2,rfl,aI⟩,ab⟩;obtain⟨p,r,rfl⟩:=aI.form;obtain⟨m2,aE⟩: ∃m,F.length=m:=⟨_,rfl⟩;have aC:=iy aI rfl;rw[aE]at aC⊢;have am:=Hm aE;clear aI aE;have C:=Hm (C.o.b ab);have B:=Hm (B.o.b ab);have D:=Hm (D.o.b ab);have T:=Hm (T.o.b ab);obtain⟨E,g1,g2,g3,g4,g5,g6,N,O,P,H,J,L,M,V⟩:=gB ab V E g1 g2 g3 g4 g5 g6 N O P H J L M;have af:=Hm (eu aq.o ab);clear ab;have al:=Hm aC;clear aC;by_cases aG:oe=0
   ·subst aG;by_cases aX:m=m2
    ·subst aX;have aM:Hl (R=if (List.zip is F).any (qo cols a)=true then 7 else 0):=Hm (by rw[Y.o,ic];simp[Z.o,ad.o,am.o]);obtain⟨W5,rfl⟩: ∃W,W=w7:=⟨_,rfl⟩;have a7:=T.o.le;go_wp2;go_loopw [20] (λi wr=> ∃k:Nat,k<=m/\i=.int .i64 k/\(List.zip is F).any (qo cols a)=((List.zip is F).drop k).any (qo cols a)/\Below W5.heap.size W5 wr) (λi _=>m-(RowKit.intOf i).toNat)
     case atStart=>exact⟨0,Nat.zero_le _,rfl,rfl,IJ⟩
     case round=>
      obtain⟨k,hk,rfl,aT,hb⟩:=hrel;have HE:=Hm aT;clear aT;have C:=Hm (C.o.b hb);have B:=Hm (B.o.b hb);have D:=Hm (D.o.b hb);have T:=Hm (T.o.b hb);have al:=Hm (al.o.b hb);obtain⟨E,g1,g2,g3,g4,g5,g6,N,O,P,H,J,L,M,V⟩:=gB hb V E g1 g2 g3 g4 g5 g6 N O P H J L M;have ar:=Hm hb;clear hb;clear E g1 g2 g3 g4 g5 g6 N O P H J L M;by_cases aW:k<m
      ·obtain⟨b,off,j1,ah,a8,HX,e0,_⟩:=T.o.int aW
       first|(subst ah)|(injection ah with ah;injection ah with hA5 hA6;subst hA5;subst hA6)
       obtain⟨b2,bi,j2,rfl,a9,HY,f0,_⟩:=al.o.int aW;have aJ:=an.o (by first|rfl|trivial) j1 (fE HX.o);have aK:=ao.o (by first|rfl|trivial) j2 (fE HY.o);rw[a1.o]at aJ;rw[a2.o]at aK;obtain⟨i1,rfl⟩: ∃i:Nat,j1=(i:Int):=⟨j1.toNat,Ho⟩;obtain⟨i2,rfl⟩: ∃i:Nat,j2=(i:Int):=⟨j2.toNat,Ho⟩;obtain⟨b3,bj,y1,ag,ba,aP,_,p1,_,_⟩:=B.o.col (k:=i1) Ho
       first|(subst ag)|(injection ag with ag;injection ag with hA7 hA8;subst hA7;subst hA8)
       obtain⟨b4,bk,y2,rfl,bb,aQ,_,q1,_,_⟩:=D.o.col (k:=i2) Ho;have aR:Hl ((List.zip is F).drop k=((i1:Int),(i2:Int))::(List.zip is F).drop (k+1)):=Hm (by
        rw[List.zip,List.drop_zipWith,HX.o,HY.o,List.zipWith_cons_cons,List.drop_zipWith])
       have ae:Hl (qo cols a ((i1:Int),(i2:Int))=(y1.kind != y2.kind)):=Hm (by
        rw[qo];simp only[Int.toNat_natCast];rw[jD aP.o,jD aQ.o])
       have k0:(0:Int)<=(k:Int):=by omega
       have k1:(k:Int)<(m:Int):=by omega
       have be:(0:Int)<=(i1:Int):=by omega
       have bf:(i1:Int)<(d:Int):=aJ.2;have bg:(0:Int)<=(i2:Int):=by omega
       have bh:(i2:Int)<(f:Int):=aK.2;have aY:=Hm ar.o;have ai:=Hm (eu af.o ar.o);clear aJ aK aP aQ HX HY;obtain⟨k3,aU⟩: ∃q,y1.kind=q:=⟨_,rfl⟩;obtain⟨k4,aV⟩: ∃q,y2.kind=q:=⟨_,rfl⟩;rw[aU]at p1 ae;rw[aV]at q1 ae;clear aU aV;go_wp2;go_quiet (fail);by_cases g:k3=k4
       ·subst g;have C:Hl ((List.zip is F).any (qo cols a)=((List.zip is F).drop (k+1)).any (qo cols a)):=Hm (by rw[HE.o,aR.o,List.any_cons,ae.o];simp);go_wp2;all_goals(try(exfalso;go_light;simp_all;done));go_roundw
        case rel=>exact⟨k+1,Ho,by go_num,C.o,below_drewN aY.o _⟩
        case measure=>simp[RowKit.intOf];omega
       ·have a4:(k3 != k4)=true:=by simpa using g
        obtain rfl:R=7:=by rw[aM.o,HE.o,aR.o,List.any_cons,ae.o,a4];simp
        go_wp2;all_goals(try(exfalso;go_light;simp_all;done));go_ret;exact⟨rfl,below_drewN ai.o _⟩
      ·obtain rfl:R=0:=by rw[aM.o,HE.o,List.drop_eq_nil_of_le (by rw[List.length_zip,Z.o,am.o];omega)];rfl
       have ai:=Hm (eu af.o ar.o);go_wp2;all_goals(try(exfalso;go_light;simp_all;done));go_ret;exact⟨rfl,ai.o⟩
    ·have q5:((m:Int) != (m2:Int))=true:=by simp;omega
     obtain rfl:R=8:=by rw[Y.o,ic];simp[Z.o,ad.o,am.o,aX]
     go_wp2;all_goals(try(exfalso;go_light;simp_all;done));go_ret;exact⟨rfl,af.o⟩
   ·have q4:(oe != 0)=true:=by simpa using aG
    obtain rfl:R=oe:=by rw[Y.o,ic];simp[Z.o,ad.o,aG]
    go_wp2;all_goals(try(exfalso;go_light;simp_all;done));go_ret;exact⟨rfl,af.o⟩
  ·have q3:(S != 0)=true:=by simpa using aB
   obtain rfl:R=S:=by rw[Y.o,ic];simp[Z.o,ad.o,aB]
   go_wp2;all_goals(try(exfalso;go_light;simp_all;done));go_ret;exact⟨rfl,aq.o⟩)
theorem Ah (hz:In w p n5 r zs)(bb:n<=4096)(V:n'<=4096)(bm:d<=4096)(bn:f<=4096)(hp:mM x)(h4:¬x.kind=4)(h5:¬x.kind=5)(p0:(x.policy==0)=false)(h2:(x.kind==2)=false)(h6:(x.kind==6)=true):
  Calls Tryz.prog 70 #[.agg (eP x A n c A' n' c' A'' n'' c'').toArray,.slice j d c1,.slice l f c2,.slice p n5 r] w λe w'=>e=.returned (.int .i64 (gF x cols a zs))/\Below w.heap.size w w':=by
 have _:=g;have H:=Hm (show gF x cols a zs=if fq cols≠0 then fq cols else nA x cols a from by
  rw[kV x cols a zs hp.1 hp.2];have:l8 x.kind=false:=by rw[l8];simp[h4,h5]
  rw[this];simp)
 rw[rP x cols a]at H;have am:=Hm λW hx hy=>lU W j d c1 cols hx A n c x.cols hy Ho Ho;have an:=Hm λW hx hy=>lU W l f c2 a hx A' n' c' x.ocols hy Ho Ho;have ah:=Hm (λh=>oJ (cols:=cols) (names:=x.cols) h);have aq:=Hm (λh=>oJ (cols:=a) (names:=x.ocols) h);have aT:=Hm (Nat.le_trans (lV cols x.cols) (by rw[u.len];exact bb));have aU:=Hm (Nat.le_trans (lV a x.ocols) (by rw[y.len];exact V));have aR:=Hm t.len;have ba:=Hm z.len;obtain⟨R,hR⟩: ∃R,gF x cols a zs=R:=⟨_,rfl⟩;obtain⟨I1,ay⟩: ∃I,gK cols x.cols=I:=⟨_,rfl⟩;obtain⟨I2,az⟩: ∃I,gK a x.ocols=I:=⟨_,rfl⟩;obtain⟨U,hU⟩: ∃U,jk x.kind=U:=⟨_,rfl⟩;rw[hR,ay,az,hU]at H;rw[ay]at am ah aT;rw[az]at an aq aU;rw[hR];have HU:=Hm hU;clear hR ay az hU;obtain⟨ie,is⟩:=I1;obtain⟨oe,F⟩:=I2;simp only at H am an ah aq aT aU;obtain⟨K0,aA⟩: ∃K,(cols.getD (is.getD 0 0).toNat default).kind=K:=⟨_,rfl⟩;rw[aA]at H;have a9:=Hm aA;clear aA;obtain⟨X,ax⟩: ∃X,fq a=X:=⟨_,rfl⟩;rw[ax]at H;have a8:=Hm ax;obtain⟨C1,aw⟩: ∃X,fq cols=X:=⟨_,rfl⟩;rw[aw]at H;have a7:=Hm aw;obtain⟨sg,aQ⟩: ∃s,(x.kind==2 || x.kind==6)=s:=⟨_,rfl⟩;rw[aQ]at H;clear ax aw;obtain rfl:sg=true:=by rw[<-aQ,h2,h6];rfl
 obtain⟨d1,d2,d3,d4⟩:=hp.dec;have e4:(x.kind==4)=false:=by simpa using h4
 have e5:(x.kind==5)=false:=by simpa using h5
 clear aQ h4 h5 hp;simp only[eP];go_enter Tryz.func70,Tryz.ntmps70;have C:=Hm u;clear u;have aa:=Hm y;clear y;have B:=Hm t;clear t;have D:=Hm z;clear z;go_wp2_with fail;obtain⟨W1,aB⟩: ∃W,W=w.alloc (.cells #[.string x.name,.string x.table,.int .i64 x.kind,.slice A n c,.string x.other,.slice A' n' c',.int .i64 x.low,.int .i64 x.high,.slice A'' n'' c'',.int .i64 x.ln,.int .i64 x.ld,.int .i64 x.mn,.int .i64 x.md,.int .i64 x.policy] 27):=⟨_,rfl⟩;obtain⟨ae,be,E,g1,g2,g3,g4,g5,g6,Q,S,T,M,N,O,P⟩:=gZ aB rfl;rw[<-aB];clear aB;have C:=Hm (C.o.b ae);have aa:=Hm (aa.o.b ae);have B:=Hm (B.o.b ae);have D:=Hm (D.o.b ae);have aZ:=Hm ae;clear ae;have Y:=lt_of_cell E;go_wp2_with fail;refine(mG _ j d c1 cols B.o).mono ?_;rintro e w6 ⟨rfl,rfl⟩;rw[a7.o];by_cases aC:C1=0;rotate_left
 ·have q0:(C1 != 0)=true:=by simpa using aC
  obtain rfl:R=C1:=by rw[H.o,if_pos aC]
  go_wp2;all_goals(try(exfalso;go_light;simp_all;done));go_ret;exact⟨rfl,aZ.o⟩
 subst aC;have G:=Hm (show R=ic true U ie is K0 X oe F ((List.zip is F).any (qo cols a)) from by rw[H.o];simp);go_wp2_with fail;refine(am.o _ (by exact B.o) (by exact C.o)).mono ?_;rintro e w1 ⟨⟨v,rfl,aL⟩,V⟩;obtain⟨A4,c4,rfl⟩:=aL.form;obtain⟨m,hm⟩: ∃m,is.length=m:=⟨_,rfl⟩;have aH:=iy aL rfl;rw[hm]at aH⊢;have L:=Hm hm;clear aL hm;have C:=Hm (C.o.b V);have aa:=Hm (aa.o.b V);have B:=Hm (B.o.b V);have D:=Hm (D.o.b V);obtain⟨E,g1,g2,g3,g4,g5,g6,Q,S,T,M,N,O,P,Y⟩:=gB V Y E g1 g2 g3 g4 g5 g6 Q S T M N O P;have af:=Hm (eu aZ.o V);clear V;have J:=Hm aH;clear aH;by_cases h0:ie=0;rotate_left
 ·have q0:(ie != 0)=true:=by simpa using h0
  obtain rfl:R=ie:=by rw[G.o,ic,if_pos h0]
  go_wp2;all_goals(try(exfalso;go_light;simp_all;done));go_ret;exact⟨rfl,af.o⟩
 subst h0;by_cases aJ:m=0
 ·subst aJ;obtain rfl:R=8:=by rw[G.o,ic];simp[L.o]
  go_wp2;all_goals(try(exfalso;go_light;simp_all;done));go_ret;exact⟨rfl,af.o⟩
 have qz:((m:Int)==0)=false:=by simpa using aJ
 have ad:=Hm aJ;by_cases a4:1<m
 ·have q1:decide (1<(m:Int))=true:=by simp;omega
  obtain rfl:R=8:=by rw[G.o,ic];simp[L.o,a4]
  go_wp2;all_goals(try(exfalso;go_light;simp_all;done));go_ret;exact⟨rfl,af.o⟩
 have q1:decide (1<(m:Int))=false:=by simp;omega
 have ac:=Hm a4;obtain⟨b0,o0,j0,rfl,bh,ar,e0,_⟩:=J.o.int (k:=0) Ho;rw[Nat.add_zero]at e0;have aN:=ah.o (by first|rfl|trivial) j0 (fE ar.o);rw[aR.o]at aN;obtain⟨i0,rfl⟩: ∃i:Nat,j0=(i:Int):=⟨j0.toNat,Ho⟩;obtain⟨bc,oc,y0,rfl,bl,aV,_,p0,_,_⟩:=B.o.col (k:=i0) Ho;have bo:(0:Int)<=(i0:Int):=by omega
 have bp:(i0:Int)<(d:Int):=aN.2;have bz:(0:Int)<(m:Int):=by omega
 obtain⟨k5,aF⟩: ∃q,y0.kind=q:=⟨_,rfl⟩;have e5:K0=k5:=by
  rw[<-a9.o,jD ar.o,<-aF];simp only[Int.toNat_natCast];rw[jD aV.o]
 rw[aF]at p0;subst e5;clear aF aN ar aV;by_cases aE:K0=2;rotate_left
 ·have q2:(K0 != 2)=true:=by simpa using aE
  obtain rfl:R=7:=by rw[G.o,ic];simp[L.o,ad.o,ac.o,aE]
  go_wp2;all_goals(try(exfalso;go_light;simp_all;done));go_ret;exact⟨rfl,af.o⟩
 subst aE;have q2:((2:Int) != 2)=false:=by decide
 go_wp2_with fail;refine(pQ _ x A n c A' n' c' A'' n'' c'').mono ?_;rintro e bx ⟨rfl,Z⟩;have C:=Hm (C.o.b Z);have aa:=Hm (aa.o.b Z);have B:=Hm (B.o.b Z);have D:=Hm (D.o.b Z);have J:=Hm (J.o.b Z);obtain⟨E,g1,g2,g3,g4,g5,g6,Q,S,T,M,N,O,P,Y⟩:=gB Z Y E g1 g2 g3 g4 g5 g6 Q S T M N O P;have au:=Hm (eu af.o Z);clear Z;rw[HU.o];cases U
 ·obtain rfl:R=0:=by rw[G.o,ic];simp[L.o,ad.o,ac.o]
  go_wp2;all_goals(try(exfalso;go_light;simp_all;done));go_ret;exact⟨rfl,au.o⟩
 go_wp2_with fail;refine(mG _ l f c2 a D.o).mono ?_;rintro e w6 ⟨rfl,rfl⟩;rw[a8.o];by_cases aD:X=0
 ·subst aD;go_wp2_with fail;refine(an.o _ (by exact D.o) (by exact aa.o)).mono ?_;rintro e w7 ⟨⟨v2,rfl,aM⟩,ab⟩;obtain⟨p,r,rfl⟩:=aM.form;obtain⟨m2,aI⟩: ∃m,F.length=m:=⟨_,rfl⟩;have aG:=iy aM rfl;rw[aI]at aG⊢;have ap:=Hm aI;clear aM aI;have C:=Hm (C.o.b ab);have B:=Hm (B.o.b ab);have D:=Hm (D.o.b ab);have J:=Hm (J.o.b ab);obtain⟨E,g1,g2,g3,g4,g5,g6,Q,S,T,M,N,O,P,Y⟩:=gB ab Y E g1 g2 g3 g4 g5 g6 Q S T M N O P;have ai:=Hm (eu au.o ab);clear ab;have ao:=Hm aG;clear aG;by_cases aK:oe=0
  ·subst aK;by_cases a5:m=m2
   ·subst a5;have aS:Hl (R=if (List.zip is F).any (qo cols a)=true then 7 else 0):=Hm (by rw[G.o,ic];simp[L.o,ad.o,ac.o,ap.o]);obtain⟨W5,rfl⟩: ∃W,W=w7:=⟨_,rfl⟩;have bf:=J.o.le;go_wp2;go_loopw [20] (λi wr=> ∃k:Nat,k<=m/\i=.int .i64 k/\(List.zip is F).any (qo cols a)=((List.zip is F).drop k).any (qo cols a)/\Below W5.heap.size W5 wr) (λi _=>m-(RowKit.intOf i).toNat)
    case atStart=>exact⟨0,Nat.zero_le _,rfl,rfl,IJ⟩
    case round=>
     obtain⟨k,hk,rfl,a0,hb⟩:=hrel;have HE:=Hm a0;clear a0;have C:=Hm (C.o.b hb);have B:=Hm (B.o.b hb);have D:=Hm (D.o.b hb);have J:=Hm (J.o.b hb);have ao:=Hm (ao.o.b hb);obtain⟨E,g1,g2,g3,g4,g5,g6,Q,S,T,M,N,O,P,Y⟩:=gB hb Y E g1 g2 g3 g4 g5 g6 Q S T M N O P;have av:=Hm hb;clear hb;clear E g1 g2 g3 g4 g5 g6 Q S T M N O P;by_cases a3:k<m
     ·obtain⟨b,off,j1,ak,bg,HX,e0,_⟩:=J.o.int a3
      first|(subst ak)|(injection ak with ak;injection ak with hA5 hA6;subst hA5;subst hA6)
      obtain⟨b2,bu,j2,rfl,bi,HY,f0,_⟩:=ao.o.int a3;have aO:=ah.o (by first|rfl|trivial) j1 (fE HX.o);have aP:=aq.o (by first|rfl|trivial) j2 (fE HY.o);rw[aR.o]at aO;rw[ba.o]at aP;obtain⟨i1,rfl⟩: ∃i:Nat,j1=(i:Int):=⟨j1.toNat,Ho⟩;obtain⟨i2,rfl⟩: ∃i:Nat,j2=(i:Int):=⟨j2.toNat,Ho⟩;obtain⟨b3,bv,y1,aj,bj,aW,_,p1,_,_⟩:=B.o.col (k:=i1) Ho
      first|(subst aj)|(injection aj with aj;injection aj with hA7 hA8;subst hA7;subst hA8)
      obtain⟨b4,bw,y2,rfl,bk,aX,_,q1,_,_⟩:=D.o.col (k:=i2) Ho;have aY:Hl ((List.zip is F).drop k=((i1:Int),(i2:Int))::(List.zip is F).drop (k+1)):=Hm (by
       rw[List.zip,List.drop_zipWith,HX.o,HY.o,List.zipWith_cons_cons,List.drop_zipWith])
      have ag:Hl (qo cols a ((i1:Int),(i2:Int))=(y1.kind != y2.kind)):=Hm (by
       rw[qo];simp only[Int.toNat_natCast];rw[jD aW.o,jD aX.o])
      have k0:(0:Int)<=(k:Int):=by omega
      have k1:(k:Int)<(m:Int):=by omega
      have bq:(0:Int)<=(i1:Int):=by omega
      have br:(i1:Int)<(d:Int):=aO.2;have bs:(0:Int)<=(i2:Int):=by omega
      have bt:(i2:Int)<(f:Int):=aP.2;have a6:=Hm av.o;have al:=Hm (eu ai.o av.o);clear aO aP aW aX HX HY;obtain⟨k3,a1⟩: ∃q,y1.kind=q:=⟨_,rfl⟩;obtain⟨k4,a2⟩: ∃q,y2.kind=q:=⟨_,rfl⟩;rw[a1]at p1 ag;rw[a2]at q1 ag;clear a1 a2;go_wp2;go_quiet (fail);by_cases g:k3=k4
      ·subst g;have C:Hl ((List.zip is F).any (qo cols a)=((List.zip is F).drop (k+1)).any (qo cols a)):=Hm (by rw[HE.o,aY.o,List.any_cons,ag.o];simp);go_wp2;all_goals(try(exfalso;go_light;simp_all;done));go_roundw
       case rel=>exact⟨k+1,Ho,by go_num,C.o,below_drewN a6.o _⟩
       case measure=>simp[RowKit.intOf];omega
      ·have bd:(k3 != k4)=true:=by simpa using g
       obtain rfl:R=7:=by rw[aS.o,HE.o,aY.o,List.any_cons,ag.o,bd];simp
       go_wp2;all_goals(try(exfalso;go_light;simp_all;done));go_ret;exact⟨rfl,below_drewN al.o _⟩
     ·obtain rfl:R=0:=by rw[aS.o,HE.o,List.drop_eq_nil_of_le (by rw[List.length_zip,L.o,ap.o];omega)];rfl
      have al:=Hm (eu ai.o av.o);go_wp2;all_goals(try(exfalso;go_light;simp_all;done));go_ret;exact⟨rfl,al.o⟩
   ·have q5:((m:Int) != (m2:Int))=true:=by simp;omega
    obtain rfl:R=8:=by rw[G.o,ic];simp[L.o,ad.o,ac.o,ap.o,a5]
    go_wp2;all_goals(try(exfalso;go_light;simp_all;done));go_ret;exact⟨rfl,ai.o⟩
  ·have q4:(oe != 0)=true:=by simpa using aK
   obtain rfl:R=oe:=by rw[G.o,ic];simp[L.o,ad.o,ac.o,aK]
   go_wp2;all_goals(try(exfalso;go_light;simp_all;done));go_ret;exact⟨rfl,ai.o⟩
 ·have q3:(X != 0)=true:=by simpa using aD
  obtain rfl:R=X:=by rw[G.o,ic];simp[L.o,ad.o,ac.o,aD]
  go_wp2;all_goals(try(exfalso;go_light;simp_all;done));go_ret;exact⟨rfl,au.o⟩
theorem xS (B:In w p n5 r zs)(o:n<=4096)(q:n'<=4096)(s:d<=4096)(v:f<=4096)(b:mM x)(k:¬x.kind=4)(m:¬x.kind=5):
  Calls Tryz.prog 70 #[.agg (eP x A n c A' n' c' A'' n'' c'').toArray,.slice j d c1,.slice l f c2,.slice p n5 r] w λe w'=>e=.returned (.int .i64 (gF x cols a zs))/\Below w.heap.size w w':=by
 cases h:(x.policy==0)
 ·cases i:(x.kind==2)
  ·cases C:(x.kind==6)
   ·exact wz w x A n c u A' n' c' y A'' n'' c'' g j d c1 cols t l f c2 a z p n5 r zs B o q s v b k m (.inr ⟨h,i,C⟩)
   ·exact Ah w x A n c u A' n' c' y A'' n'' c'' g j d c1 cols t l f c2 a z p n5 r zs B o q s v b k m h i C
  ·exact wy w x A n c u A' n' c' y A'' n'' c'' g j d c1 cols t l f c2 a z p n5 r zs B o q s v b k m (.inr ⟨h,i⟩)
 ·have C:(x.kind==6)=false:=by
   have D:x.policy=0:=by simpa using h
   have:=b.2;simp only[beq_eq_false_iff_ne];omega
  cases i:(x.kind==2)
  ·exact wz w x A n c u A' n' c' y A'' n'' c'' g j d c1 cols t l f c2 a z p n5 r zs B o q s v b k m (.inl ⟨h,C,i⟩)
  ·exact wy w x A n c u A' n' c' y A'' n'' c'' g j d c1 cols t l f c2 a z p n5 r zs B o q s v b k m (.inl ⟨h,C,i⟩)
end
end Go.Proofs.YthnelebakkggjaaGreatDoor
