/-
  warehouseref28.UsesOther, table, holds. (Printed by gen_valr.py.) warehouseref28.Validate. (Printed by gen_valr.py.)
-/
import Derived.Test.YtopjjlmfilgngaaGreatDoorGbe
namespace Go.Proofs.YtopjjlmfilgngaaGreatDoor
set_option maxHeartbeats 4000000
set_option maxRecDepth 100000
open Go.RowKit
set_option linter.unusedSimpArgs false
set_option linter.unusedVariables false
theorem uQ (w:World)(x:Chk)(A:Option Addr)(n c:Nat)(A':Option Addr)(n' c':Nat)(A'':Option Addr)(n'' c'':Nat):Calls Tryz.prog 67 #[.agg (fZ x A n c A' n' c' A'' n'' c'').toArray] w λe w'=>e=.returned (.bool (kI x.kind))/\Below w.heap.size w w':=by
 rw[kI];simp only[fZ];cases z:(x.kind==3)
 ·go_enter Tryz.func67,Tryz.ntmps67;go_wp2_with fail;obtain⟨W1,a⟩: ∃W,W=w.alloc (.cells #[.string x.name,.string x.table,.int .i64 x.kind,.slice A n c,.string x.other,.slice A' n' c',.int .i64 x.low,.int .i64 x.high,.slice A'' n'' c'',.int .i64 x.ln,.int .i64 x.ld,.int .i64 x.mn,.int .i64 x.md,.int .i64 x.policy] 48):=⟨_,rfl⟩;obtain⟨b,i,d,j,q,r,g4,s,t,u,v,y,k,l,m,p⟩:=iE a rfl;rw[<-a];clear a;have g:=Hm b;clear b;have f:=lt_of_cell d;go_wp2;go_ret;exact⟨gp (by simp),g.o⟩
 ·go_enter Tryz.func67,Tryz.ntmps67;go_wp2_with fail;obtain⟨W1,a⟩: ∃W,W=w.alloc (.cells #[.string x.name,.string x.table,.int .i64 x.kind,.slice A n c,.string x.other,.slice A' n' c',.int .i64 x.low,.int .i64 x.high,.slice A'' n'' c'',.int .i64 x.ln,.int .i64 x.ld,.int .i64 x.mn,.int .i64 x.md,.int .i64 x.policy] 48):=⟨_,rfl⟩;obtain⟨b,i,d,j,q,r,g4,s,t,u,v,y,k,l,m,p⟩:=iE a rfl;rw[<-a];clear a;have h:=Hm b;clear b;have f:=lt_of_cell d;go_wp2;go_ret;exact⟨gp (by simp),h.o⟩
theorem IZ (w:World)(x:Chk)(A:Option Addr)(n c:Nat)(A':Option Addr)(n' c':Nat)(A'':Option Addr)(n'' c'':Nat)(f:In w A'' n'' c'' x.cond)(i:Option Addr)(N c1:Nat)(cols:List Col)(d:In w i N c1 cols)(A2:Option Addr)(n2 c2:Nat)(zs:List Zone)(h:In w A2 n2 c2 zs)(A3:Option Addr)(n3 c3:Nat)(row:List Val)(g:In w A3 n3 c3 row):
  Calls Tryz.prog 70 #[.agg (fZ x A n c A' n' c' A'' n'' c'').toArray,.slice i N c1,.slice A2 n2 c2,.slice A3 n3 c3] w λe w'=>e=.returned (.bool (qQ x.cond cols row zs))/\Below w.heap.size w w':=by
 have l:=Hm λW f d g h=>KE W A'' n'' c'' x.cond f i N c1 cols d A3 n3 c3 row g A2 n2 c2 zs h;have r:=Hm (mh (xL x.cond cols row zs));have a:=Hm (show qQ x.cond cols row zs=((kW x.cond cols row zs).1==0&&truth (kW x.cond cols row zs).2==1) from rfl);obtain⟨R,K⟩: ∃R,qQ x.cond cols row zs=R:=⟨_,rfl⟩;obtain⟨E,X⟩: ∃E,kW x.cond cols row zs=E:=⟨_,rfl⟩;rw[K]at a;rw[X]at l r a;rw[K];clear K X;obtain⟨U,O,P,vs⟩:=E;simp only[Val.cells]at l r a;simp only[fZ];go_enter Tryz.func70,Tryz.ntmps70;have m:=Hm f;clear f;have k:=Hm d;clear d;have p:=Hm g;clear g;have s:=Hm h;clear h;go_wp2_with fail;obtain⟨W1,L⟩: ∃W,W=w.alloc (.cells #[.string x.name,.string x.table,.int .i64 x.kind,.slice A n c,.string x.other,.slice A' n' c',.int .i64 x.low,.int .i64 x.high,.slice A'' n'' c'',.int .i64 x.ln,.int .i64 x.ld,.int .i64 x.mn,.int .i64 x.md,.int .i64 x.policy] 48):=⟨_,rfl⟩;obtain⟨b,ab,t,u,C,D,g4,F,G,H,I,J,v,y,z,B⟩:=iE L rfl;rw[<-L];clear L;have m:=Hm (m.o.below b);have k:=Hm (k.o.below b);have p:=Hm (p.o.below b);have s:=Hm (s.o.below b);have aa:=Hm b;clear b;have Q:=lt_of_cell t;refine(l.o _ m.o k.o p.o s.o).mono ?_;rintro e w4 ⟨rfl,M⟩;obtain⟨t,u,C,D,g4,F,G,H,I,J,v,y,z,B,Q⟩:=jE M Q t u C D g4 F G H I J v y z B;have S:=Hm (fH aa.o M);clear M;clear u C D g4 F G H I J v y z B;by_cases V:U=0
 ·subst V;go_wp2_with fail;refine(GK ⟨O,P,vs⟩ r.o _).mono ?_;rintro e w3 ⟨rfl,Z⟩;have j:=Hm (fH S.o (fH fI Z));obtain⟨T,Y⟩: ∃T,truth ⟨O,P,vs⟩=T:=⟨_,rfl⟩;rw[Y]at a⊢;clear Y Z;go_wp2;go_ret;exact⟨gp (by rw[a.o];simp),j.o⟩
 ·have q:(U==0)=false:=by simpa using V
  obtain rfl:R=false:=by rw[a.o,q];rfl
  have j:=Hm (fH S.o (fI (o:=.cells #[.int .i64 O,.int .i64 P,.string vs] 36)));go_wp2;all_goals(try(exfalso;go_light;simp_all;done));go_ret;exact⟨rfl,j.o⟩
theorem Ck (w:World)(nm:ByteArray)(A:Option Addr)(n c:Nat)(cols:List Col)(S:In w A n c cols)(A':Option Addr)(n' c':Nat)(A2:Option Addr)(n2 c2:Nat)(rows:List Ent)(H:In w A2 n2 c2 rows):
  Calls Tryz.prog 66 #[.agg #[.string nm,.slice A n c,.slice A' n' c',.slice A2 n2 c2]] w λe w'=>e=.returned (.int .i64 (iL cols rows))/\Below w.heap.size w w':=by
 have q:=Hm (show iL cols rows=if gN rows≠0 then gN rows else if jJ rows=false then 8 else fQ (λ_ x=>gF cols x.row) 0 rows from rfl);obtain⟨R,E⟩: ∃R,iL cols rows=R:=⟨_,rfl⟩;rw[E]at q;rw[E];clear E;have al:=H.le;go_enter Tryz.func66,Tryz.ntmps66;have d:=Hm S;clear S;have a:=Hm H;clear H;go_wp2_with fail;obtain⟨W1,G⟩: ∃W,W=w.alloc (.cells #[.string nm,.slice A n c,.slice A' n' c',.slice A2 n2 c2] 29):=⟨_,rfl⟩;obtain⟨s,ak,l,g,m,h⟩:=jV G rfl;rw[<-G];clear G;have d:=Hm (d.o.below s);have a:=Hm (a.o.below s);have ah:=Hm s;clear s;have f:=lt_of_cell l;obtain⟨B,D⟩: ∃B,gN rows=B:=⟨_,rfl⟩;have aa:=Hm D;obtain⟨T,F⟩: ∃T,jJ rows=T:=⟨_,rfl⟩;have ag:=Hm F;rw[D,F]at q;clear D F;refine(G5 _ A2 n2 c2 rows a.o).mono ?_;rintro e w7 ⟨rfl,r⟩;have d:=Hm (d.o.below r);have a:=Hm (a.o.below r);obtain⟨l,g,m,h,f⟩:=xI r f l g m h;have N:=Hm (fH ah.o r);clear r;rw[aa.o];by_cases C:B=0
 ·subst C;go_wp2_with fail;refine(Eu _ A2 n2 c2 rows a.o).mono ?_;rintro e X ⟨rfl,j⟩;have d:=Hm (d.o.below j);have a:=Hm (a.o.below j);obtain⟨l,g,m,h,f⟩:=xI j f l g m h;have v:=Hm (fH N.o j);clear j;rw[ag.o];cases T
  ·obtain rfl:R=8:=by rw[q.o];simp
   go_wp2;all_goals(try(exfalso;go_light;simp_all;done));go_ret;exact⟨rfl,v.o⟩
  ·have L:Hl (R=fQ (λ_ x=>gF cols x.row) 0 rows):=Hm (by rw[q.o];simp);obtain⟨O,rfl⟩: ∃W,W=X:=⟨_,rfl⟩;go_wp2;go_loopw [4] (λi wr=> ∃k:Nat,k<=n2/\i=.int .i64 k/\fQ (λ_ x=>gF cols x.row) 0 rows=fQ (λ_ x=>gF cols x.row) k (rows.drop k)/\Below O.heap.size O wr) (λi _=>n2-(RowKit.intOf i).toNat)
   case atStart=>exact⟨0,Nat.zero_le _,rfl,rfl,Below.refl _ _⟩
   case round=>
    obtain⟨k,hk,rfl,U,hb⟩:=hrel;have u:=Hm U;clear U;have d:=Hm (d.o.below hb);have a:=Hm (a.o.below hb);obtain⟨l,g,m,h,f⟩:=xI hb f l g m h;have z:=Hm hb;clear hb;by_cases aj:k<n2
    ·obtain⟨b,off,y,rfl,ai,M,K,J,I,P,e1,Q,e3⟩:=a.o.ent aj;have k0:(0:Int)<=(k:Int):=by omega
     have k1:(k:Int)<(n2:Int):=by omega
     have HI:=Hm Q;have ad:=Hm ai;have Y:=Hm P;have Z:=Hm g;have G3:=Hm h;clear e1 Q;have af:=Hm z.o;have ac:=Hm (fH v.o z.o);go_wp2;go_region_held3 (λV=>V.cell? ⟨w.heap.size,1,none⟩=some (.slice A n c)/\V.cell? ⟨w.heap.size,3,none⟩=some (.slice (some ⟨b,off,none⟩) n2 c2)/\V.cell? ⟨b,off+k*2,none⟩=some (.slice K J I))
      (first|exact⟨fO p.o f Z.o,fO p.o f G3.o,fO p.o ad.o Y.o⟩|exact⟨g,h,P⟩|go_keep)
      (first|(go_at_call 95;refine(vV _ A K n J c I cols y.row (by exact d.o.below (Below.refl _ _).drew) (by exact HI.o.below (Below.refl _ _).drew)).mono ?_;rintro e X ⟨rfl,j⟩;have p:=Hm (fP j);clear j))
     have ae:=Hm (fH af.o p.o);have ab:=Hm (fH ac.o p.o);by_cases t:gF cols y.row=0
     ·rw[t];have HN:Hl (fQ (λ_ x=>gF cols x.row) 0 rows=fQ (λ_ x=>gF cols x.row) (k+1) (rows.drop (k+1))):=Hm (by rw[u.o,M.o];exact ig t);go_wp2;go_roundw
      case rel=>exact⟨k+1,by omega,by go_num,HN.o,ae.o⟩
      case measure=>simp[RowKit.intOf];omega
     ·have am:(gF cols y.row != 0)=true:=by simpa using t
      obtain rfl:R=gF cols y.row:=by rw[L.o,u.o,M.o];exact gL rfl t
      go_wp2;all_goals(try(exfalso;go_light;simp_all;done));go_ret;exact⟨rfl,ab.o⟩
    ·obtain rfl:R=0:=by rw[L.o,u.o,gG a.o.len (by omega),fQ]
     go_wp2;all_goals(try(exfalso;go_light;simp_all;done));go_ret;exact⟨rfl,(fH v.o z.o)⟩
 ·have q0:(B != 0)=true:=by simpa using C
  obtain rfl:R=B:=by rw[q.o];simp[C]
  go_wp2;all_goals(try(exfalso;go_light;simp_all;done));go_ret;exact⟨rfl,N.o⟩
def mQ (x:Chk):Prop:=¬(x.kind<0\/6<x.kind\/x.policy<0\/2<x.policy)/\¬(x.policy=0/\(x.kind=5\/x.kind=6))
theorem mQ.dec {x:Chk}(h:mQ x):decide (x.kind<0)=false/\decide (6<x.kind)=false/\decide (x.policy<0)=false/\decide (2<x.policy)=false:=by
 obtain⟨a,_⟩:=h;refine⟨?_,?_,?_,?_⟩<;>simp<;>omega
theorem zY (w:World)(x:Chk)(A:Option Addr)(n c:Nat)(A':Option Addr)(n' c':Nat)(A'':Option Addr)(n'' c'':Nat)(i k S:Value)(h:¬mQ x)(cols j:List Col)(zs:List Zone):
  Calls Tryz.prog 65 #[.agg (fZ x A n c A' n' c' A'' n'' c'').toArray,i,k,S] w λe w'=>e=.returned (.int .i64 (gQ x cols j zs))/\Below w.heap.size w w':=by
 have X:(decide (x.kind<0)=true/\gQ x cols j zs=1)\/(decide (x.kind<0)=false/\decide (6<x.kind)=true/\gQ x cols j zs=1)\/(decide (x.kind<0)=false/\decide (6<x.kind)=false/\decide (x.policy<0)=true/\gQ x cols j zs=1)
   \/(decide (x.kind<0)=false/\decide (6<x.kind)=false/\decide (x.policy<0)=false/\decide (2<x.policy)=true/\gQ x cols j zs=1)
   \/(decide (x.kind<0)=false/\decide (6<x.kind)=false/\decide (x.policy<0)=false/\decide (2<x.policy)=false/\(((x.policy==0)=true/\(x.kind==5)=true/\gQ x cols j zs=7)\/((x.policy==0)=true/\(x.kind==5)=false/\(x.kind==6)=true/\gQ x cols j zs=7))):=by
  by_cases i:x.kind<0
  ·exact .inl ⟨by simpa using i,by rw[gQ,if_pos (.inl i)]⟩
  by_cases k:6<x.kind
  ·exact .inr (.inl ⟨by simpa using i,by simpa using k,by rw[gQ,if_pos (.inr (.inl k))]⟩)
  by_cases F:x.policy<0
  ·exact .inr (.inr (.inl ⟨by simpa using i,by simpa using k,by simpa using F,by rw[gQ,if_pos (.inr (.inr (.inl F)))]⟩))
  by_cases H:2<x.policy
  ·exact .inr (.inr (.inr (.inl ⟨by simpa using i,by simpa using k,by simpa using F,by simpa using H,by rw[gQ,if_pos (.inr (.inr (.inr H)))]⟩)))
  have b:¬(x.kind<0\/6<x.kind\/x.policy<0\/2<x.policy):=by omega
  have d:x.policy=0/\(x.kind=5\/x.kind=6):=by
   rw[mQ]at h;exact Classical.byContradiction λq=>h ⟨b,q⟩
  refine .inr (.inr (.inr (.inr ⟨by simpa using i,by simpa using k,by simpa using F,by simpa using H,?_⟩)));by_cases J:x.kind=5
  ·exact .inl ⟨by simpa using d.1,by simpa using J,by rw[gQ,if_neg b,if_pos d]⟩
  ·exact .inr ⟨by simpa using d.1,by simpa using J,by have:=d.2;simp;omega,by rw[gQ,if_neg b,if_pos d]⟩
 clear h;generalize gQ x cols j zs=R at*;simp only[fZ];rcases X with ⟨G,rfl⟩|⟨G,I,rfl⟩|⟨G,I,K,rfl⟩|⟨G,I,K,T,rfl⟩|⟨G,I,K,T,⟨U,V,rfl⟩|⟨U,V,Y,rfl⟩⟩
 ·go_enter Tryz.func65,Tryz.ntmps65;go_wp2_with fail;obtain⟨W1,a⟩: ∃W,W=w.alloc (.cells #[.string x.name,.string x.table,.int .i64 x.kind,.slice A n c,.string x.other,.slice A' n' c',.int .i64 x.low,.int .i64 x.high,.slice A'' n'' c'',.int .i64 x.ln,.int .i64 x.ld,.int .i64 x.mn,.int .i64 x.md,.int .i64 x.policy] 48):=⟨_,rfl⟩;obtain⟨f,m,g,p,v,y,g4,z,B,C,D,E,r,s,t,u⟩:=iE a rfl;rw[<-a];clear a;have L:=Hm f;clear f;have l:=lt_of_cell g;go_wp2;all_goals(try(exfalso;go_light;simp_all;done));go_ret;exact⟨rfl,L.o⟩
 ·go_enter Tryz.func65,Tryz.ntmps65;go_wp2_with fail;obtain⟨W1,a⟩: ∃W,W=w.alloc (.cells #[.string x.name,.string x.table,.int .i64 x.kind,.slice A n c,.string x.other,.slice A' n' c',.int .i64 x.low,.int .i64 x.high,.slice A'' n'' c'',.int .i64 x.ln,.int .i64 x.ld,.int .i64 x.mn,.int .i64 x.md,.int .i64 x.policy] 48):=⟨_,rfl⟩;obtain⟨f,m,g,p,v,y,g4,z,B,C,D,E,r,s,t,u⟩:=iE a rfl;rw[<-a];clear a;have M:=Hm f;clear f;have l:=lt_of_cell g;go_wp2;all_goals(try(exfalso;go_light;simp_all;done));go_ret;exact⟨rfl,M.o⟩
 ·go_enter Tryz.func65,Tryz.ntmps65;go_wp2_with fail;obtain⟨W1,a⟩: ∃W,W=w.alloc (.cells #[.string x.name,.string x.table,.int .i64 x.kind,.slice A n c,.string x.other,.slice A' n' c',.int .i64 x.low,.int .i64 x.high,.slice A'' n'' c'',.int .i64 x.ln,.int .i64 x.ld,.int .i64 x.mn,.int .i64 x.md,.int .i64 x.policy] 48):=⟨_,rfl⟩;obtain⟨f,m,g,p,v,y,g4,z,B,C,D,E,r,s,t,u⟩:=iE a rfl;rw[<-a];clear a;have N:=Hm f;clear f;have l:=lt_of_cell g;go_wp2;all_goals(try(exfalso;go_light;simp_all;done));go_ret;exact⟨rfl,N.o⟩
 ·go_enter Tryz.func65,Tryz.ntmps65;go_wp2_with fail;obtain⟨W1,a⟩: ∃W,W=w.alloc (.cells #[.string x.name,.string x.table,.int .i64 x.kind,.slice A n c,.string x.other,.slice A' n' c',.int .i64 x.low,.int .i64 x.high,.slice A'' n'' c'',.int .i64 x.ln,.int .i64 x.ld,.int .i64 x.mn,.int .i64 x.md,.int .i64 x.policy] 48):=⟨_,rfl⟩;obtain⟨f,m,g,p,v,y,g4,z,B,C,D,E,r,s,t,u⟩:=iE a rfl;rw[<-a];clear a;have O:=Hm f;clear f;have l:=lt_of_cell g;go_wp2;all_goals(try(exfalso;go_light;simp_all;done));go_ret;exact⟨rfl,O.o⟩
 ·go_enter Tryz.func65,Tryz.ntmps65;go_wp2_with fail;obtain⟨W1,a⟩: ∃W,W=w.alloc (.cells #[.string x.name,.string x.table,.int .i64 x.kind,.slice A n c,.string x.other,.slice A' n' c',.int .i64 x.low,.int .i64 x.high,.slice A'' n'' c'',.int .i64 x.ln,.int .i64 x.ld,.int .i64 x.mn,.int .i64 x.md,.int .i64 x.policy] 48):=⟨_,rfl⟩;obtain⟨f,m,g,p,v,y,g4,z,B,C,D,E,r,s,t,u⟩:=iE a rfl;rw[<-a];clear a;have P:=Hm f;clear f;have l:=lt_of_cell g;go_wp2;all_goals(try(exfalso;go_light;simp_all;done));go_ret;exact⟨rfl,P.o⟩
 ·go_enter Tryz.func65,Tryz.ntmps65;go_wp2_with fail;obtain⟨W1,a⟩: ∃W,W=w.alloc (.cells #[.string x.name,.string x.table,.int .i64 x.kind,.slice A n c,.string x.other,.slice A' n' c',.int .i64 x.low,.int .i64 x.high,.slice A'' n'' c'',.int .i64 x.ln,.int .i64 x.ld,.int .i64 x.mn,.int .i64 x.md,.int .i64 x.policy] 48):=⟨_,rfl⟩;obtain⟨f,m,g,p,v,y,g4,z,B,C,D,E,r,s,t,u⟩:=iE a rfl;rw[<-a];clear a;have Q:=Hm f;clear f;have l:=lt_of_cell g;go_wp2;all_goals(try(exfalso;go_light;simp_all;done));go_ret;exact⟨rfl,Q.o⟩
section
variable (w:World)(x:Chk)(A:Option Addr)(n c:Nat)(r:In w A n c x.cols)(A':Option Addr)(n' c':Nat)(t:In w A' n' c' x.ocols)(A'':Option Addr)(n'' c'':Nat)(f:In w A'' n'' c'' x.cond)(g:Option Addr)(d c1:Nat)(cols:List Col)(p:In w g d c1 cols)(A2:Option Addr)(n2 c2:Nat)(a:List Col)(u:In w A2 n2 c2 a)(j:Option Addr)(n5 l:Nat)(zs:List Zone)
include w x A n c r A' n' c' t A'' n'' c'' f g d c1 cols p A2 n2 c2 a u j n5 l zs
theorem wR (hz:In w j n5 l zs)(bd:n<=4096)(Z:n'<=4096)(bn:d<=4096)(bo:n2<=4096)(hp:mQ x)(h4:¬x.kind=4)(h5:¬x.kind=5)(hw:(((x.policy==0)=true/\(x.kind==6)=false/\(x.kind==2)=true)\/((x.policy==0)=false/\(x.kind==2)=true))):
  Calls Tryz.prog 65 #[.agg (fZ x A n c A' n' c' A'' n'' c'').toArray,.slice g d c1,.slice A2 n2 c2,.slice j n5 l] w λe w'=>e=.returned (.int .i64 (gQ x cols a zs))/\Below w.heap.size w w':=by
 have _:=f;rcases hw with ⟨p0,h6,h2⟩|⟨p0,h2⟩
 all_goals(
  have F:=Hm (show gQ x cols a zs=if gu cols≠0 then gu cols else mR x cols a from by
   rw[kZ x cols a zs hp.1 hp.2];have:mg x.kind=false:=by rw[mg];simp[h4,h5]
   rw[this];simp)
  rw[r9 x cols a]at F;have an:=Hm λW hx hy=>l7 W g d c1 cols hx A n c x.cols hy (by omega) (by omega);have ao:=Hm λW hx hy=>l7 W A2 n2 c2 a hx A' n' c' x.ocols hy (by omega) (by omega);have ai:=Hm (λh=>oP (cols:=cols) (names:=x.cols) h);have ar:=Hm (λh=>oP (cols:=a) (names:=x.ocols) h);have aU:=Hm (Nat.le_trans (mO cols x.cols) (by rw[r.len];exact bd));have aV:=Hm (Nat.le_trans (mO a x.ocols) (by rw[t.len];exact Z));have aS:=Hm p.len;have bb:=Hm u.len;obtain⟨R,hR⟩: ∃R,gQ x cols a zs=R:=⟨_,rfl⟩;obtain⟨I1,az⟩: ∃I,il cols x.cols=I:=⟨_,rfl⟩;obtain⟨I2,aA⟩: ∃I,il a x.ocols=I:=⟨_,rfl⟩;obtain⟨U,hU⟩: ∃U,kI x.kind=U:=⟨_,rfl⟩;rw[hR,az,aA,hU]at F;rw[az]at an ai aU;rw[aA]at ao ar aV;rw[hR];have HU:=Hm hU;clear hR az aA hU;obtain⟨ie,is⟩:=I1;obtain⟨oe,D⟩:=I2;simp only at F an ao ai ar aU aV;obtain⟨K0,aB⟩: ∃K,(cols.getD (is.getD 0 0).toNat default).kind=K:=⟨_,rfl⟩;rw[aB]at F;have ba:=Hm aB;clear aB;obtain⟨CE,ay⟩: ∃CE,gu a=CE:=⟨_,rfl⟩;rw[ay]at F;have a9:=Hm ay;obtain⟨C1,ax⟩: ∃CE,gu cols=CE:=⟨_,rfl⟩;rw[ax]at F;have a8:=Hm ax;obtain⟨sg,aR⟩: ∃s,(x.kind==2 || x.kind==6)=s:=⟨_,rfl⟩;rw[aR]at F;clear ay ax;obtain rfl:sg=true:=by rw[<-aR,h2];rfl
  obtain⟨d1,d2,d3,d4⟩:=hp.dec;have e4:(x.kind==4)=false:=by simpa using h4
  have e5:(x.kind==5)=false:=by simpa using h5
  clear aR h4 h5 hp;simp only[fZ];go_enter Tryz.func65,Tryz.ntmps65;have z:=Hm r;clear r;have ab:=Hm t;clear t;have y:=Hm p;clear p;have B:=Hm u;clear u;go_wp2_with fail;obtain⟨W1,aC⟩: ∃W,W=w.alloc (.cells #[.string x.name,.string x.table,.int .i64 x.kind,.slice A n c,.string x.other,.slice A' n' c',.int .i64 x.low,.int .i64 x.high,.slice A'' n'' c'',.int .i64 x.ln,.int .i64 x.ld,.int .i64 x.mn,.int .i64 x.md,.int .i64 x.policy] 48):=⟨_,rfl⟩;obtain⟨af,bf,C,J,P,Q,g4,S,T,V,X,Y,L,M,N,O⟩:=iE aC rfl;rw[<-aC];clear aC;have z:=Hm (z.o.below af);have ab:=Hm (ab.o.below af);have y:=Hm (y.o.below af);have B:=Hm (B.o.below af);have a0:=Hm af;clear af;have LR:=lt_of_cell C;go_wp2_with fail;refine(mJ _ g d c1 cols y.o).mono ?_;rintro e w6 ⟨rfl,rfl⟩;rw[a8.o];by_cases aD:C1=0;rotate_left
  ·have q0:(C1 != 0)=true:=by simpa using aD
   obtain rfl:R=C1:=by rw[F.o,if_pos aD]
   go_wp2;all_goals(try(exfalso;go_light;simp_all;done));go_ret;exact⟨rfl,a0.o⟩
  subst aD;have E:=Hm (show R=iQ true U ie is K0 CE oe D ((List.zip is D).any (qj cols a)) from by rw[F.o];simp);go_wp2_with fail;refine(an.o _ (by exact y.o) (by exact z.o)).mono ?_;rintro e w1 ⟨⟨v,rfl,aM⟩,Z⟩;obtain⟨A4,c4,rfl⟩:=aM.form;obtain⟨m,hm⟩: ∃m,is.length=m:=⟨_,rfl⟩;have aI:=jB aM rfl;rw[hm]at aI⊢;have H:=Hm hm;clear aM hm;have z:=Hm (z.o.below Z);have ab:=Hm (ab.o.below Z);have y:=Hm (y.o.below Z);have B:=Hm (B.o.below Z);obtain⟨C,J,P,Q,g4,S,T,V,X,Y,L,M,N,O,LR⟩:=jE Z LR C J P Q g4 S T V X Y L M N O;have ag:=Hm (fH a0.o Z);clear Z;have G:=Hm aI;clear aI;by_cases h0:ie=0;rotate_left
  ·have q0:(ie != 0)=true:=by simpa using h0
   obtain rfl:R=ie:=by rw[E.o,iQ,if_pos h0]
   go_wp2;all_goals(try(exfalso;go_light;simp_all;done));go_ret;exact⟨rfl,ag.o⟩
  subst h0;by_cases aK:m=0
  ·subst aK;obtain rfl:R=8:=by rw[E.o,iQ];simp[H.o]
   go_wp2;all_goals(try(exfalso;go_light;simp_all;done));go_ret;exact⟨rfl,ag.o⟩
  have qz:((m:Int)==0)=false:=by simpa using aK
  have ae:=Hm aK;by_cases a5:1<m
  ·have q1:decide (1<(m:Int))=true:=by simp;omega
   obtain rfl:R=8:=by rw[E.o,iQ];simp[H.o,a5]
   go_wp2;all_goals(try(exfalso;go_light;simp_all;done));go_ret;exact⟨rfl,ag.o⟩
  have q1:decide (1<(m:Int))=false:=by simp;omega
  have ad:=Hm a5;obtain⟨b0,o0,j0,rfl,bi,au,e0,_⟩:=G.o.int (k:=0) (by omega);rw[Nat.add_zero]at e0;have aO:=ai.o (by first|rfl|trivial) j0 (gH au.o);rw[aS.o]at aO;obtain⟨i0,rfl⟩: ∃i:Nat,j0=(i:Int):=⟨j0.toNat,by omega⟩;obtain⟨bc,oc,y0,rfl,bm,aW,_,p0,_,_⟩:=y.o.col (k:=i0) (by omega);have bp:(0:Int)<=(i0:Int):=by omega
  have bq:(i0:Int)<(d:Int):=aO.2;have bz:(0:Int)<(m:Int):=by omega
  obtain⟨k5,aG⟩: ∃q,y0.kind=q:=⟨_,rfl⟩;have e5:K0=k5:=by
   rw[<-ba.o,jS au.o,<-aG];simp only[Int.toNat_natCast];rw[jS aW.o]
  rw[aG]at p0;subst e5;clear aG aO au aW;by_cases aF:K0=2;rotate_left
  ·have q2:(K0 != 2)=true:=by simpa using aF
   obtain rfl:R=7:=by rw[E.o,iQ];simp[H.o,ae.o,ad.o,aF]
   go_wp2;all_goals(try(exfalso;go_light;simp_all;done));go_ret;exact⟨rfl,ag.o⟩
  subst aF;have q2:((2:Int) != 2)=false:=by decide
  go_wp2_with fail;refine(uQ _ x A n c A' n' c' A'' n'' c'').mono ?_;rintro e w9 ⟨rfl,aa⟩;have z:=Hm (z.o.below aa);have ab:=Hm (ab.o.below aa);have y:=Hm (y.o.below aa);have B:=Hm (B.o.below aa);have G:=Hm (G.o.below aa);obtain⟨C,J,P,Q,g4,S,T,V,X,Y,L,M,N,O,LR⟩:=jE aa LR C J P Q g4 S T V X Y L M N O;have av:=Hm (fH ag.o aa);clear aa;rw[HU.o];cases U
  ·obtain rfl:R=0:=by rw[E.o,iQ];simp[H.o,ae.o,ad.o]
   go_wp2;all_goals(try(exfalso;go_light;simp_all;done));go_ret;exact⟨rfl,av.o⟩
  go_wp2_with fail;refine(mJ _ A2 n2 c2 a B.o).mono ?_;rintro e w6 ⟨rfl,rfl⟩;rw[a9.o];by_cases aE:CE=0
  ·subst aE;go_wp2_with fail;refine(ao.o _ (by exact B.o) (by exact ab.o)).mono ?_;rintro e w7 ⟨⟨v2,rfl,aN⟩,ac⟩;obtain⟨j,l,rfl⟩:=aN.form;obtain⟨m2,aJ⟩: ∃m,D.length=m:=⟨_,rfl⟩;have aH:=jB aN rfl;rw[aJ]at aH⊢;have aq:=Hm aJ;clear aN aJ;have z:=Hm (z.o.below ac);have y:=Hm (y.o.below ac);have B:=Hm (B.o.below ac);have G:=Hm (G.o.below ac);obtain⟨C,J,P,Q,g4,S,T,V,X,Y,L,M,N,O,LR⟩:=jE ac LR C J P Q g4 S T V X Y L M N O;have aj:=Hm (fH av.o ac);clear ac;have ap:=Hm aH;clear aH;by_cases aL:oe=0
   ·subst aL;by_cases a6:m=m2
    ·subst a6;have aT:Hl (R=if (List.zip is D).any (qj cols a)=true then 7 else 0):=Hm (by rw[E.o,iQ];simp[H.o,ae.o,ad.o,aq.o]);obtain⟨W5,rfl⟩: ∃W,W=w7:=⟨_,rfl⟩;have bg:=G.o.le;go_wp2;go_loopw [20] (λi wr=> ∃k:Nat,k<=m/\i=.int .i64 k/\(List.zip is D).any (qj cols a)=((List.zip is D).drop k).any (qj cols a)/\Below W5.heap.size W5 wr) (λi _=>m-(RowKit.intOf i).toNat)
     case atStart=>exact⟨0,Nat.zero_le _,rfl,rfl,Below.refl _ _⟩
     case round=>
      obtain⟨k,hk,rfl,a1,hb⟩:=hrel;have HE:=Hm a1;clear a1;have z:=Hm (z.o.below hb);have y:=Hm (y.o.below hb);have B:=Hm (B.o.below hb);have G:=Hm (G.o.below hb);have ap:=Hm (ap.o.below hb);obtain⟨C,J,P,Q,g4,S,T,V,X,Y,L,M,N,O,LR⟩:=jE hb LR C J P Q g4 S T V X Y L M N O;have aw:=Hm hb;clear hb;clear C J P Q g4 S T V X Y L M N O;by_cases a4:k<m
      ·obtain⟨b,off,j1,al,bh,HX,e0,_⟩:=G.o.int a4
       first|(subst al)|(injection al with al;injection al with hA5 hA6;subst hA5;subst hA6)
       obtain⟨b2,bv,j2,rfl,bj,HY,f0,_⟩:=ap.o.int a4;have aP:=ai.o (by first|rfl|trivial) j1 (gH HX.o);have aQ:=ar.o (by first|rfl|trivial) j2 (gH HY.o);rw[aS.o]at aP;rw[bb.o]at aQ;obtain⟨i1,rfl⟩: ∃i:Nat,j1=(i:Int):=⟨j1.toNat,by omega⟩;obtain⟨i2,rfl⟩: ∃i:Nat,j2=(i:Int):=⟨j2.toNat,by omega⟩;obtain⟨b3,bw,y1,ak,bk,aX,_,p1,_,_⟩:=y.o.col (k:=i1) (by omega)
       first|(subst ak)|(injection ak with ak;injection ak with hA7 hA8;subst hA7;subst hA8)
       obtain⟨b4,bx,y2,rfl,bl,aY,_,q1,_,_⟩:=B.o.col (k:=i2) (by omega);have aZ:Hl ((List.zip is D).drop k=((i1:Int),(i2:Int))::(List.zip is D).drop (k+1)):=Hm (by
        rw[List.zip,List.drop_zipWith,HX.o,HY.o,List.zipWith_cons_cons,List.drop_zipWith])
       have ah:Hl (qj cols a ((i1:Int),(i2:Int))=(y1.kind != y2.kind)):=Hm (by
        rw[qj];simp only[Int.toNat_natCast];rw[jS aX.o,jS aY.o])
       have k0:(0:Int)<=(k:Int):=by omega
       have k1:(k:Int)<(m:Int):=by omega
       have br:(0:Int)<=(i1:Int):=by omega
       have bs:(i1:Int)<(d:Int):=aP.2;have bt:(0:Int)<=(i2:Int):=by omega
       have bu:(i2:Int)<(n2:Int):=aQ.2;have a7:=Hm aw.o;have am:=Hm (fH aj.o aw.o);clear aP aQ aX aY HX HY;obtain⟨k3,a2⟩: ∃q,y1.kind=q:=⟨_,rfl⟩;obtain⟨k4,a3⟩: ∃q,y2.kind=q:=⟨_,rfl⟩;rw[a2]at p1 ah;rw[a3]at q1 ah;clear a2 a3;go_wp2;go_quiet (fail);by_cases f:k3=k4
       ·subst f;have z:Hl ((List.zip is D).any (qj cols a)=((List.zip is D).drop (k+1)).any (qj cols a)):=Hm (by rw[HE.o,aZ.o,List.any_cons,ah.o];simp);go_wp2;all_goals(try(exfalso;go_light;simp_all;done));go_roundw
        case rel=>exact⟨k+1,by omega,by go_num,z.o,below_drewN a7.o _⟩
        case measure=>simp[RowKit.intOf];omega
       ·have be:(k3 != k4)=true:=by simpa using f
        obtain rfl:R=7:=by rw[aT.o,HE.o,aZ.o,List.any_cons,ah.o,be];simp
        go_wp2;all_goals(try(exfalso;go_light;simp_all;done));go_ret;exact⟨rfl,below_drewN am.o _⟩
      ·obtain rfl:R=0:=by rw[aT.o,HE.o,List.drop_eq_nil_of_le (by rw[List.length_zip,H.o,aq.o];omega)];rfl
       have am:=Hm (fH aj.o aw.o);go_wp2;all_goals(try(exfalso;go_light;simp_all;done));go_ret;exact⟨rfl,am.o⟩
    ·have q5:((m:Int) != (m2:Int))=true:=by simp;omega
     obtain rfl:R=8:=by rw[E.o,iQ];simp[H.o,ae.o,ad.o,aq.o,a6]
     go_wp2;all_goals(try(exfalso;go_light;simp_all;done));go_ret;exact⟨rfl,aj.o⟩
   ·have q4:(oe != 0)=true:=by simpa using aL
    obtain rfl:R=oe:=by rw[E.o,iQ];simp[H.o,ae.o,ad.o,aL]
    go_wp2;all_goals(try(exfalso;go_light;simp_all;done));go_ret;exact⟨rfl,aj.o⟩
  ·have q3:(CE != 0)=true:=by simpa using aE
   obtain rfl:R=CE:=by rw[E.o,iQ];simp[H.o,ae.o,ad.o,aE]
   go_wp2;all_goals(try(exfalso;go_light;simp_all;done));go_ret;exact⟨rfl,av.o⟩)
theorem wS (hz:In w j n5 l zs)(a4:n<=4096)(V:n'<=4096)(bd:d<=4096)(be:n2<=4096)(hp:mQ x)(h4:¬x.kind=4)(h5:¬x.kind=5)(hw:(((x.policy==0)=true/\(x.kind==6)=false/\(x.kind==2)=false)\/((x.policy==0)=false/\(x.kind==2)=false/\(x.kind==6)=false))):
  Calls Tryz.prog 65 #[.agg (fZ x A n c A' n' c' A'' n'' c'').toArray,.slice g d c1,.slice A2 n2 c2,.slice j n5 l] w λe w'=>e=.returned (.int .i64 (gQ x cols a zs))/\Below w.heap.size w w':=by
 have _:=f;rcases hw with ⟨p0,h6,h2⟩|⟨p0,h2,h6⟩
 all_goals(
  have E:=Hm (show gQ x cols a zs=if gu cols≠0 then gu cols else mR x cols a from by
   rw[kZ x cols a zs hp.1 hp.2];have:mg x.kind=false:=by rw[mg];simp[h4,h5]
   rw[this];simp)
  rw[r9 x cols a]at E;have ak:=Hm λW hx hy=>l7 W g d c1 cols hx A n c x.cols hy (by omega) (by omega);have al:=Hm λW hx hy=>l7 W A2 n2 c2 a hx A' n' c' x.ocols hy (by omega) (by omega);have ao:=Hm (λh=>oP (cols:=cols) (names:=x.cols) h);have ap:=Hm (λh=>oP (cols:=a) (names:=x.ocols) h);have aO:=Hm (Nat.le_trans (mO cols x.cols) (by rw[r.len];exact a4));have aP:=Hm (Nat.le_trans (mO a x.ocols) (by rw[t.len];exact V));have a2:=Hm p.len;have a3:=Hm u.len;obtain⟨R,hR⟩: ∃R,gQ x cols a zs=R:=⟨_,rfl⟩;obtain⟨I1,ax⟩: ∃I,il cols x.cols=I:=⟨_,rfl⟩;obtain⟨I2,ay⟩: ∃I,il a x.ocols=I:=⟨_,rfl⟩;obtain⟨U,hU⟩: ∃U,kI x.kind=U:=⟨_,rfl⟩;rw[hR,ax,ay,hU]at E;rw[ax]at ak ao aO;rw[ay]at al ap aP;rw[hR];have HU:=Hm hU;clear hR ax ay hU;obtain⟨ie,is⟩:=I1;obtain⟨oe,D⟩:=I2;simp only at E ak al ao ap aO aP;obtain⟨K0,az⟩: ∃K,(cols.getD (is.getD 0 0).toNat default).kind=K:=⟨_,rfl⟩;rw[az]at E;have a6:=Hm az;clear az;obtain⟨X,aw⟩: ∃X,gu a=X:=⟨_,rfl⟩;rw[aw]at E;have a1:=Hm aw;obtain⟨C1,av⟩: ∃X,gu cols=X:=⟨_,rfl⟩;rw[av]at E;have a0:=Hm av;obtain⟨sg,aM⟩: ∃s,(x.kind==2 || x.kind==6)=s:=⟨_,rfl⟩;rw[aM]at E;clear aw av;obtain rfl:sg=false:=by rw[<-aM,h2,h6];rfl
  obtain⟨d1,d2,d3,d4⟩:=hp.dec;have e4:(x.kind==4)=false:=by simpa using h4
  have e5:(x.kind==5)=false:=by simpa using h5
  clear aM h4 h5 hp;simp only[fZ];go_enter Tryz.func65,Tryz.ntmps65;have z:=Hm r;clear r;have ab:=Hm t;clear t;have y:=Hm p;clear p;have B:=Hm u;clear u;go_wp2_with fail;obtain⟨W1,aA⟩: ∃W,W=w.alloc (.cells #[.string x.name,.string x.table,.int .i64 x.kind,.slice A n c,.string x.other,.slice A' n' c',.int .i64 x.low,.int .i64 x.high,.slice A'' n'' c'',.int .i64 x.ln,.int .i64 x.ld,.int .i64 x.mn,.int .i64 x.md,.int .i64 x.policy] 48):=⟨_,rfl⟩;obtain⟨ad,a7,C,F,M,N,g4,O,P,Q,S,T,G,H,J,L⟩:=iE aA rfl;rw[<-aA];clear aA;have z:=Hm (z.o.below ad);have ab:=Hm (ab.o.below ad);have y:=Hm (y.o.below ad);have B:=Hm (B.o.below ad);have aT:=Hm ad;clear ad;have Z:=lt_of_cell C;go_wp2_with fail;refine(mJ _ g d c1 cols y.o).mono ?_;rintro e w6 ⟨rfl,rfl⟩;rw[a0.o];by_cases aB:C1=0;rotate_left
  ·have q0:(C1 != 0)=true:=by simpa using aB
   obtain rfl:R=C1:=by rw[E.o,if_pos aB]
   go_wp2;all_goals(try(exfalso;go_light;simp_all;done));go_ret;exact⟨rfl,aT.o⟩
  subst aB;have HD:=Hm (show R=iQ false U ie is K0 X oe D ((List.zip is D).any (qj cols a)) from by rw[E.o];simp);go_wp2_with fail;refine(ak.o _ (by exact y.o) (by exact z.o)).mono ?_;rintro e w1 ⟨⟨v,rfl,aI⟩,V⟩;obtain⟨A4,c4,rfl⟩:=aI.form;obtain⟨m,hm⟩: ∃m,is.length=m:=⟨_,rfl⟩;have aE:=jB aI rfl;rw[hm]at aE⊢;have HM:=Hm hm;clear aI hm;have z:=Hm (z.o.below V);have ab:=Hm (ab.o.below V);have y:=Hm (y.o.below V);have B:=Hm (B.o.below V);obtain⟨C,F,M,N,g4,O,P,Q,S,T,G,H,J,L,Z⟩:=jE V Z C F M N g4 O P Q S T G H J L;have aq:=Hm (fH aT.o V);clear V;have Y:=Hm aE;clear aE;by_cases h0:ie=0;rotate_left
  ·have q0:(ie != 0)=true:=by simpa using h0
   obtain rfl:R=ie:=by rw[HD.o,iQ,if_pos h0]
   go_wp2;all_goals(try(exfalso;go_light;simp_all;done));go_ret;exact⟨rfl,aq.o⟩
  subst h0;by_cases aG:m=0
  ·subst aG;obtain rfl:R=8:=by rw[HD.o,iQ];simp[HM.o]
   go_wp2;all_goals(try(exfalso;go_light;simp_all;done));go_ret;exact⟨rfl,aq.o⟩
  have qz:((m:Int)==0)=false:=by simpa using aG
  have ae:=Hm aG;go_wp2_with fail;refine(uQ _ x A n c A' n' c' A'' n'' c'').mono ?_;rintro e bm ⟨rfl,aa⟩;have z:=Hm (z.o.below aa);have ab:=Hm (ab.o.below aa);have y:=Hm (y.o.below aa);have B:=Hm (B.o.below aa);have Y:=Hm (Y.o.below aa);obtain⟨C,F,M,N,g4,O,P,Q,S,T,G,H,J,L,Z⟩:=jE aa Z C F M N g4 O P Q S T G H J L;have ar:=Hm (fH aq.o aa);clear aa;rw[HU.o];cases U
  ·obtain rfl:R=0:=by rw[HD.o,iQ];simp[HM.o,ae.o]
   go_wp2;all_goals(try(exfalso;go_light;simp_all;done));go_ret;exact⟨rfl,ar.o⟩
  go_wp2_with fail;refine(mJ _ A2 n2 c2 a B.o).mono ?_;rintro e w6 ⟨rfl,rfl⟩;rw[a1.o];by_cases aC:X=0
  ·subst aC;go_wp2_with fail;refine(al.o _ (by exact B.o) (by exact ab.o)).mono ?_;rintro e w7 ⟨⟨v2,rfl,aJ⟩,ac⟩;obtain⟨j,l,rfl⟩:=aJ.form;obtain⟨m2,aF⟩: ∃m,D.length=m:=⟨_,rfl⟩;have aD:=jB aJ rfl;rw[aF]at aD⊢;have an:=Hm aF;clear aJ aF;have z:=Hm (z.o.below ac);have y:=Hm (y.o.below ac);have B:=Hm (B.o.below ac);have Y:=Hm (Y.o.below ac);obtain⟨C,F,M,N,g4,O,P,Q,S,T,G,H,J,L,Z⟩:=jE ac Z C F M N g4 O P Q S T G H J L;have ag:=Hm (fH ar.o ac);clear ac;have am:=Hm aD;clear aD;by_cases aH:oe=0
   ·subst aH;by_cases aY:m=m2
    ·subst aY;have aN:Hl (R=if (List.zip is D).any (qj cols a)=true then 7 else 0):=Hm (by rw[HD.o,iQ];simp[HM.o,ae.o,an.o]);obtain⟨W5,rfl⟩: ∃W,W=w7:=⟨_,rfl⟩;have a8:=Y.o.le;go_wp2;go_loopw [20] (λi wr=> ∃k:Nat,k<=m/\i=.int .i64 k/\(List.zip is D).any (qj cols a)=((List.zip is D).drop k).any (qj cols a)/\Below W5.heap.size W5 wr) (λi _=>m-(RowKit.intOf i).toNat)
     case atStart=>exact⟨0,Nat.zero_le _,rfl,rfl,Below.refl _ _⟩
     case round=>
      obtain⟨k,hk,rfl,aU,hb⟩:=hrel;have HE:=Hm aU;clear aU;have z:=Hm (z.o.below hb);have y:=Hm (y.o.below hb);have B:=Hm (B.o.below hb);have Y:=Hm (Y.o.below hb);have am:=Hm (am.o.below hb);obtain⟨C,F,M,N,g4,O,P,Q,S,T,G,H,J,L,Z⟩:=jE hb Z C F M N g4 O P Q S T G H J L;have au:=Hm hb;clear hb;clear C F M N g4 O P Q S T G H J L;by_cases aX:k<m
      ·obtain⟨b,off,j1,ai,a9,HX,e0,_⟩:=Y.o.int aX
       first|(subst ai)|(injection ai with ai;injection ai with hA5 hA6;subst hA5;subst hA6)
       obtain⟨b2,bj,j2,rfl,ba,HY,f0,_⟩:=am.o.int aX;have aK:=ao.o (by first|rfl|trivial) j1 (gH HX.o);have aL:=ap.o (by first|rfl|trivial) j2 (gH HY.o);rw[a2.o]at aK;rw[a3.o]at aL;obtain⟨i1,rfl⟩: ∃i:Nat,j1=(i:Int):=⟨j1.toNat,by omega⟩;obtain⟨i2,rfl⟩: ∃i:Nat,j2=(i:Int):=⟨j2.toNat,by omega⟩;obtain⟨b3,bk,y1,ah,bb,aQ,_,p1,_,_⟩:=y.o.col (k:=i1) (by omega)
       first|(subst ah)|(injection ah with ah;injection ah with hA7 hA8;subst hA7;subst hA8)
       obtain⟨b4,bl,y2,rfl,bc,aR,_,q1,_,_⟩:=B.o.col (k:=i2) (by omega);have aS:Hl ((List.zip is D).drop k=((i1:Int),(i2:Int))::(List.zip is D).drop (k+1)):=Hm (by
        rw[List.zip,List.drop_zipWith,HX.o,HY.o,List.zipWith_cons_cons,List.drop_zipWith])
       have af:Hl (qj cols a ((i1:Int),(i2:Int))=(y1.kind != y2.kind)):=Hm (by
        rw[qj];simp only[Int.toNat_natCast];rw[jS aQ.o,jS aR.o])
       have k0:(0:Int)<=(k:Int):=by omega
       have k1:(k:Int)<(m:Int):=by omega
       have bf:(0:Int)<=(i1:Int):=by omega
       have bg:(i1:Int)<(d:Int):=aK.2;have bh:(0:Int)<=(i2:Int):=by omega
       have bi:(i2:Int)<(n2:Int):=aL.2;have aZ:=Hm au.o;have aj:=Hm (fH ag.o au.o);clear aK aL aQ aR HX HY;obtain⟨k3,aV⟩: ∃q,y1.kind=q:=⟨_,rfl⟩;obtain⟨k4,aW⟩: ∃q,y2.kind=q:=⟨_,rfl⟩;rw[aV]at p1 af;rw[aW]at q1 af;clear aV aW;go_wp2;go_quiet (fail);by_cases f:k3=k4
       ·subst f;have z:Hl ((List.zip is D).any (qj cols a)=((List.zip is D).drop (k+1)).any (qj cols a)):=Hm (by rw[HE.o,aS.o,List.any_cons,af.o];simp);go_wp2;all_goals(try(exfalso;go_light;simp_all;done));go_roundw
        case rel=>exact⟨k+1,by omega,by go_num,z.o,below_drewN aZ.o _⟩
        case measure=>simp[RowKit.intOf];omega
       ·have a5:(k3 != k4)=true:=by simpa using f
        obtain rfl:R=7:=by rw[aN.o,HE.o,aS.o,List.any_cons,af.o,a5];simp
        go_wp2;all_goals(try(exfalso;go_light;simp_all;done));go_ret;exact⟨rfl,below_drewN aj.o _⟩
      ·obtain rfl:R=0:=by rw[aN.o,HE.o,List.drop_eq_nil_of_le (by rw[List.length_zip,HM.o,an.o];omega)];rfl
       have aj:=Hm (fH ag.o au.o);go_wp2;all_goals(try(exfalso;go_light;simp_all;done));go_ret;exact⟨rfl,aj.o⟩
    ·have q5:((m:Int) != (m2:Int))=true:=by simp;omega
     obtain rfl:R=8:=by rw[HD.o,iQ];simp[HM.o,ae.o,an.o,aY]
     go_wp2;all_goals(try(exfalso;go_light;simp_all;done));go_ret;exact⟨rfl,ag.o⟩
   ·have q4:(oe != 0)=true:=by simpa using aH
    obtain rfl:R=oe:=by rw[HD.o,iQ];simp[HM.o,ae.o,aH]
    go_wp2;all_goals(try(exfalso;go_light;simp_all;done));go_ret;exact⟨rfl,ag.o⟩
  ·have q3:(X != 0)=true:=by simpa using aC
   obtain rfl:R=X:=by rw[HD.o,iQ];simp[HM.o,ae.o,aC]
   go_wp2;all_goals(try(exfalso;go_light;simp_all;done));go_ret;exact⟨rfl,ar.o⟩)
theorem Bc (hz:In w j n5 l zs)(bd:n<=4096)(Z:n'<=4096)(bn:d<=4096)(bo:n2<=4096)(hp:mQ x)(h4:¬x.kind=4)(h5:¬x.kind=5)(p0:(x.policy==0)=false)(h2:(x.kind==2)=false)(h6:(x.kind==6)=true):
  Calls Tryz.prog 65 #[.agg (fZ x A n c A' n' c' A'' n'' c'').toArray,.slice g d c1,.slice A2 n2 c2,.slice j n5 l] w λe w'=>e=.returned (.int .i64 (gQ x cols a zs))/\Below w.heap.size w w':=by
 have _:=f;have F:=Hm (show gQ x cols a zs=if gu cols≠0 then gu cols else mR x cols a from by
  rw[kZ x cols a zs hp.1 hp.2];have:mg x.kind=false:=by rw[mg];simp[h4,h5]
  rw[this];simp)
 rw[r9 x cols a]at F;have an:=Hm λW hx hy=>l7 W g d c1 cols hx A n c x.cols hy (by omega) (by omega);have ao:=Hm λW hx hy=>l7 W A2 n2 c2 a hx A' n' c' x.ocols hy (by omega) (by omega);have ai:=Hm (λh=>oP (cols:=cols) (names:=x.cols) h);have ar:=Hm (λh=>oP (cols:=a) (names:=x.ocols) h);have aU:=Hm (Nat.le_trans (mO cols x.cols) (by rw[r.len];exact bd));have aV:=Hm (Nat.le_trans (mO a x.ocols) (by rw[t.len];exact Z));have aS:=Hm p.len;have bb:=Hm u.len;obtain⟨R,hR⟩: ∃R,gQ x cols a zs=R:=⟨_,rfl⟩;obtain⟨I1,az⟩: ∃I,il cols x.cols=I:=⟨_,rfl⟩;obtain⟨I2,aA⟩: ∃I,il a x.ocols=I:=⟨_,rfl⟩;obtain⟨U,hU⟩: ∃U,kI x.kind=U:=⟨_,rfl⟩;rw[hR,az,aA,hU]at F;rw[az]at an ai aU;rw[aA]at ao ar aV;rw[hR];have HU:=Hm hU;clear hR az aA hU;obtain⟨ie,is⟩:=I1;obtain⟨oe,D⟩:=I2;simp only at F an ao ai ar aU aV;obtain⟨K0,aB⟩: ∃K,(cols.getD (is.getD 0 0).toNat default).kind=K:=⟨_,rfl⟩;rw[aB]at F;have ba:=Hm aB;clear aB;obtain⟨CE,ay⟩: ∃CE,gu a=CE:=⟨_,rfl⟩;rw[ay]at F;have a9:=Hm ay;obtain⟨C1,ax⟩: ∃CE,gu cols=CE:=⟨_,rfl⟩;rw[ax]at F;have a8:=Hm ax;obtain⟨sg,aR⟩: ∃s,(x.kind==2 || x.kind==6)=s:=⟨_,rfl⟩;rw[aR]at F;clear ay ax;obtain rfl:sg=true:=by rw[<-aR,h2,h6];rfl
 obtain⟨d1,d2,d3,d4⟩:=hp.dec;have e4:(x.kind==4)=false:=by simpa using h4
 have e5:(x.kind==5)=false:=by simpa using h5
 clear aR h4 h5 hp;simp only[fZ];go_enter Tryz.func65,Tryz.ntmps65;have z:=Hm r;clear r;have ab:=Hm t;clear t;have y:=Hm p;clear p;have B:=Hm u;clear u;go_wp2_with fail;obtain⟨W1,aC⟩: ∃W,W=w.alloc (.cells #[.string x.name,.string x.table,.int .i64 x.kind,.slice A n c,.string x.other,.slice A' n' c',.int .i64 x.low,.int .i64 x.high,.slice A'' n'' c'',.int .i64 x.ln,.int .i64 x.ld,.int .i64 x.mn,.int .i64 x.md,.int .i64 x.policy] 48):=⟨_,rfl⟩;obtain⟨af,bf,C,J,P,Q,g4,S,T,V,X,Y,L,M,N,O⟩:=iE aC rfl;rw[<-aC];clear aC;have z:=Hm (z.o.below af);have ab:=Hm (ab.o.below af);have y:=Hm (y.o.below af);have B:=Hm (B.o.below af);have a0:=Hm af;clear af;have LR:=lt_of_cell C;go_wp2_with fail;refine(mJ _ g d c1 cols y.o).mono ?_;rintro e w6 ⟨rfl,rfl⟩;rw[a8.o];by_cases aD:C1=0;rotate_left
 ·have q0:(C1 != 0)=true:=by simpa using aD
  obtain rfl:R=C1:=by rw[F.o,if_pos aD]
  go_wp2;all_goals(try(exfalso;go_light;simp_all;done));go_ret;exact⟨rfl,a0.o⟩
 subst aD;have E:=Hm (show R=iQ true U ie is K0 CE oe D ((List.zip is D).any (qj cols a)) from by rw[F.o];simp);go_wp2_with fail;refine(an.o _ (by exact y.o) (by exact z.o)).mono ?_;rintro e w1 ⟨⟨v,rfl,aM⟩,Z⟩;obtain⟨A4,c4,rfl⟩:=aM.form;obtain⟨m,hm⟩: ∃m,is.length=m:=⟨_,rfl⟩;have aI:=jB aM rfl;rw[hm]at aI⊢;have H:=Hm hm;clear aM hm;have z:=Hm (z.o.below Z);have ab:=Hm (ab.o.below Z);have y:=Hm (y.o.below Z);have B:=Hm (B.o.below Z);obtain⟨C,J,P,Q,g4,S,T,V,X,Y,L,M,N,O,LR⟩:=jE Z LR C J P Q g4 S T V X Y L M N O;have ag:=Hm (fH a0.o Z);clear Z;have G:=Hm aI;clear aI;by_cases h0:ie=0;rotate_left
 ·have q0:(ie != 0)=true:=by simpa using h0
  obtain rfl:R=ie:=by rw[E.o,iQ,if_pos h0]
  go_wp2;all_goals(try(exfalso;go_light;simp_all;done));go_ret;exact⟨rfl,ag.o⟩
 subst h0;by_cases aK:m=0
 ·subst aK;obtain rfl:R=8:=by rw[E.o,iQ];simp[H.o]
  go_wp2;all_goals(try(exfalso;go_light;simp_all;done));go_ret;exact⟨rfl,ag.o⟩
 have qz:((m:Int)==0)=false:=by simpa using aK
 have ae:=Hm aK;by_cases a5:1<m
 ·have q1:decide (1<(m:Int))=true:=by simp;omega
  obtain rfl:R=8:=by rw[E.o,iQ];simp[H.o,a5]
  go_wp2;all_goals(try(exfalso;go_light;simp_all;done));go_ret;exact⟨rfl,ag.o⟩
 have q1:decide (1<(m:Int))=false:=by simp;omega
 have ad:=Hm a5;obtain⟨b0,o0,j0,rfl,bi,au,e0,_⟩:=G.o.int (k:=0) (by omega);rw[Nat.add_zero]at e0;have aO:=ai.o (by first|rfl|trivial) j0 (gH au.o);rw[aS.o]at aO;obtain⟨i0,rfl⟩: ∃i:Nat,j0=(i:Int):=⟨j0.toNat,by omega⟩;obtain⟨bc,oc,y0,rfl,bm,aW,_,p0,_,_⟩:=y.o.col (k:=i0) (by omega);have bp:(0:Int)<=(i0:Int):=by omega
 have bq:(i0:Int)<(d:Int):=aO.2;have bA:(0:Int)<(m:Int):=by omega
 obtain⟨k5,aG⟩: ∃q,y0.kind=q:=⟨_,rfl⟩;have e5:K0=k5:=by
  rw[<-ba.o,jS au.o,<-aG];simp only[Int.toNat_natCast];rw[jS aW.o]
 rw[aG]at p0;subst e5;clear aG aO au aW;by_cases aF:K0=2;rotate_left
 ·have q2:(K0 != 2)=true:=by simpa using aF
  obtain rfl:R=7:=by rw[E.o,iQ];simp[H.o,ae.o,ad.o,aF]
  go_wp2;all_goals(try(exfalso;go_light;simp_all;done));go_ret;exact⟨rfl,ag.o⟩
 subst aF;have q2:((2:Int) != 2)=false:=by decide
 go_wp2_with fail;refine(uQ _ x A n c A' n' c' A'' n'' c'').mono ?_;rintro e bz ⟨rfl,aa⟩;have z:=Hm (z.o.below aa);have ab:=Hm (ab.o.below aa);have y:=Hm (y.o.below aa);have B:=Hm (B.o.below aa);have G:=Hm (G.o.below aa);obtain⟨C,J,P,Q,g4,S,T,V,X,Y,L,M,N,O,LR⟩:=jE aa LR C J P Q g4 S T V X Y L M N O;have av:=Hm (fH ag.o aa);clear aa;rw[HU.o];cases U
 ·obtain rfl:R=0:=by rw[E.o,iQ];simp[H.o,ae.o,ad.o]
  go_wp2;all_goals(try(exfalso;go_light;simp_all;done));go_ret;exact⟨rfl,av.o⟩
 go_wp2_with fail;refine(mJ _ A2 n2 c2 a B.o).mono ?_;rintro e w6 ⟨rfl,rfl⟩;rw[a9.o];by_cases aE:CE=0
 ·subst aE;go_wp2_with fail;refine(ao.o _ (by exact B.o) (by exact ab.o)).mono ?_;rintro e w7 ⟨⟨v2,rfl,aN⟩,ac⟩;obtain⟨j,l,rfl⟩:=aN.form;obtain⟨m2,aJ⟩: ∃m,D.length=m:=⟨_,rfl⟩;have aH:=jB aN rfl;rw[aJ]at aH⊢;have aq:=Hm aJ;clear aN aJ;have z:=Hm (z.o.below ac);have y:=Hm (y.o.below ac);have B:=Hm (B.o.below ac);have G:=Hm (G.o.below ac);obtain⟨C,J,P,Q,g4,S,T,V,X,Y,L,M,N,O,LR⟩:=jE ac LR C J P Q g4 S T V X Y L M N O;have aj:=Hm (fH av.o ac);clear ac;have ap:=Hm aH;clear aH;by_cases aL:oe=0
  ·subst aL;by_cases a6:m=m2
   ·subst a6;have aT:Hl (R=if (List.zip is D).any (qj cols a)=true then 7 else 0):=Hm (by rw[E.o,iQ];simp[H.o,ae.o,ad.o,aq.o]);obtain⟨W5,rfl⟩: ∃W,W=w7:=⟨_,rfl⟩;have bg:=G.o.le;go_wp2;go_loopw [20] (λi wr=> ∃k:Nat,k<=m/\i=.int .i64 k/\(List.zip is D).any (qj cols a)=((List.zip is D).drop k).any (qj cols a)/\Below W5.heap.size W5 wr) (λi _=>m-(RowKit.intOf i).toNat)
    case atStart=>exact⟨0,Nat.zero_le _,rfl,rfl,Below.refl _ _⟩
    case round=>
     obtain⟨k,hk,rfl,a1,hb⟩:=hrel;have HE:=Hm a1;clear a1;have z:=Hm (z.o.below hb);have y:=Hm (y.o.below hb);have B:=Hm (B.o.below hb);have G:=Hm (G.o.below hb);have ap:=Hm (ap.o.below hb);obtain⟨C,J,P,Q,g4,S,T,V,X,Y,L,M,N,O,LR⟩:=jE hb LR C J P Q g4 S T V X Y L M N O;have aw:=Hm hb;clear hb;clear C J P Q g4 S T V X Y L M N O;by_cases a4:k<m
     ·obtain⟨b,off,j1,al,bh,HX,e0,_⟩:=G.o.int a4
      first|(subst al)|(injection al with al;injection al with hA5 hA6;subst hA5;subst hA6)
      obtain⟨b2,bv,j2,rfl,bj,HY,f0,_⟩:=ap.o.int a4;have aP:=ai.o (by first|rfl|trivial) j1 (gH HX.o);have aQ:=ar.o (by first|rfl|trivial) j2 (gH HY.o);rw[aS.o]at aP;rw[bb.o]at aQ;obtain⟨i1,rfl⟩: ∃i:Nat,j1=(i:Int):=⟨j1.toNat,by omega⟩;obtain⟨i2,rfl⟩: ∃i:Nat,j2=(i:Int):=⟨j2.toNat,by omega⟩;obtain⟨b3,bw,y1,ak,bk,aX,_,p1,_,_⟩:=y.o.col (k:=i1) (by omega)
      first|(subst ak)|(injection ak with ak;injection ak with hA7 hA8;subst hA7;subst hA8)
      obtain⟨b4,bx,y2,rfl,bl,aY,_,q1,_,_⟩:=B.o.col (k:=i2) (by omega);have aZ:Hl ((List.zip is D).drop k=((i1:Int),(i2:Int))::(List.zip is D).drop (k+1)):=Hm (by
       rw[List.zip,List.drop_zipWith,HX.o,HY.o,List.zipWith_cons_cons,List.drop_zipWith])
      have ah:Hl (qj cols a ((i1:Int),(i2:Int))=(y1.kind != y2.kind)):=Hm (by
       rw[qj];simp only[Int.toNat_natCast];rw[jS aX.o,jS aY.o])
      have k0:(0:Int)<=(k:Int):=by omega
      have k1:(k:Int)<(m:Int):=by omega
      have br:(0:Int)<=(i1:Int):=by omega
      have bs:(i1:Int)<(d:Int):=aP.2;have bt:(0:Int)<=(i2:Int):=by omega
      have bu:(i2:Int)<(n2:Int):=aQ.2;have a7:=Hm aw.o;have am:=Hm (fH aj.o aw.o);clear aP aQ aX aY HX HY;obtain⟨k3,a2⟩: ∃q,y1.kind=q:=⟨_,rfl⟩;obtain⟨k4,a3⟩: ∃q,y2.kind=q:=⟨_,rfl⟩;rw[a2]at p1 ah;rw[a3]at q1 ah;clear a2 a3;go_wp2;go_quiet (fail);by_cases f:k3=k4
      ·subst f;have z:Hl ((List.zip is D).any (qj cols a)=((List.zip is D).drop (k+1)).any (qj cols a)):=Hm (by rw[HE.o,aZ.o,List.any_cons,ah.o];simp);go_wp2;all_goals(try(exfalso;go_light;simp_all;done));go_roundw
       case rel=>exact⟨k+1,by omega,by go_num,z.o,below_drewN a7.o _⟩
       case measure=>simp[RowKit.intOf];omega
      ·have be:(k3 != k4)=true:=by simpa using f
       obtain rfl:R=7:=by rw[aT.o,HE.o,aZ.o,List.any_cons,ah.o,be];simp
       go_wp2;all_goals(try(exfalso;go_light;simp_all;done));go_ret;exact⟨rfl,below_drewN am.o _⟩
     ·obtain rfl:R=0:=by rw[aT.o,HE.o,List.drop_eq_nil_of_le (by rw[List.length_zip,H.o,aq.o];omega)];rfl
      have am:=Hm (fH aj.o aw.o);go_wp2;all_goals(try(exfalso;go_light;simp_all;done));go_ret;exact⟨rfl,am.o⟩
   ·have q5:((m:Int) != (m2:Int))=true:=by simp;omega
    obtain rfl:R=8:=by rw[E.o,iQ];simp[H.o,ae.o,ad.o,aq.o,a6]
    go_wp2;all_goals(try(exfalso;go_light;simp_all;done));go_ret;exact⟨rfl,aj.o⟩
  ·have q4:(oe != 0)=true:=by simpa using aL
   obtain rfl:R=oe:=by rw[E.o,iQ];simp[H.o,ae.o,ad.o,aL]
   go_wp2;all_goals(try(exfalso;go_light;simp_all;done));go_ret;exact⟨rfl,aj.o⟩
 ·have q3:(CE != 0)=true:=by simpa using aE
  obtain rfl:R=CE:=by rw[E.o,iQ];simp[H.o,ae.o,ad.o,aE]
  go_wp2;all_goals(try(exfalso;go_light;simp_all;done));go_ret;exact⟨rfl,av.o⟩
theorem yt (y:In w j n5 l zs)(o:n<=4096)(q:n'<=4096)(s:d<=4096)(v:n2<=4096)(b:mQ x)(k:¬x.kind=4)(m:¬x.kind=5):
  Calls Tryz.prog 65 #[.agg (fZ x A n c A' n' c' A'' n'' c'').toArray,.slice g d c1,.slice A2 n2 c2,.slice j n5 l] w λe w'=>e=.returned (.int .i64 (gQ x cols a zs))/\Below w.heap.size w w':=by
 cases h:(x.policy==0)
 ·cases i:(x.kind==2)
  ·cases z:(x.kind==6)
   ·exact wS w x A n c r A' n' c' t A'' n'' c'' f g d c1 cols p A2 n2 c2 a u j n5 l zs y o q s v b k m (.inr ⟨h,i,z⟩)
   ·exact Bc w x A n c r A' n' c' t A'' n'' c'' f g d c1 cols p A2 n2 c2 a u j n5 l zs y o q s v b k m h i z
  ·exact wR w x A n c r A' n' c' t A'' n'' c'' f g d c1 cols p A2 n2 c2 a u j n5 l zs y o q s v b k m (.inr ⟨h,i⟩)
 ·have z:(x.kind==6)=false:=by
   have B:x.policy=0:=by simpa using h
   have:=b.2;simp only[beq_eq_false_iff_ne];omega
  cases i:(x.kind==2)
  ·exact wS w x A n c r A' n' c' t A'' n'' c'' f g d c1 cols p A2 n2 c2 a u j n5 l zs y o q s v b k m (.inl ⟨h,z,i⟩)
  ·exact wR w x A n c r A' n' c' t A'' n'' c'' f g d c1 cols p A2 n2 c2 a u j n5 l zs y o q s v b k m (.inl ⟨h,z,i⟩)
end
end Go.Proofs.YtopjjlmfilgngaaGreatDoor
