/-
  warehouseref28.Validate: checks with conditions; whole. (Printed by gen_valr.py.)
-/
import Derived.Test.YthnelebakkggjaaGreatDoorGbe
namespace Go.Proofs.YthnelebakkggjaaGreatDoor
set_option maxHeartbeats 4000000
set_option maxRecDepth 100000
open Go.RowKit
set_option linter.unusedSimpArgs false
set_option linter.unusedVariables false
def jm (x:Chk)(k:Nat):Bool:=if k=0 then(iA x.ln x.ld&&iA x.mn x.md) else if k=1 then iA x.mn x.md else true
theorem zx (n d:Int):(decide (n<0)=true/\iA n d=false)\/(decide (n<0)=false/\decide (1073741824<n)=true/\iA n d=false)\/(decide (n<0)=false/\decide (1073741824<n)=false/\decide (d<1)=true/\iA n d=false)
  \/(decide (n<0)=false/\decide (1073741824<n)=false/\decide (d<1)=false/\decide (1073741824<d)=true/\iA n d=false)\/(decide (n<0)=false/\decide (1073741824<n)=false/\decide (d<1)=false/\decide (1073741824<d)=false/\iA n d=true):=by
 by_cases a:n<0
 ·exact .inl ⟨by simpa using a,by rw[iA];simp;omega⟩
 by_cases b:1073741824<n
 ·exact .inr (.inl ⟨by simpa using a,by simpa using b,by rw[iA];simp;omega⟩)
 by_cases c:d<1
 ·exact .inr (.inr (.inl ⟨by simpa using a,by simpa using b,by simpa using c,by rw[iA];simp;omega⟩))
 by_cases e:1073741824<d
 ·exact .inr (.inr (.inr (.inl ⟨by simpa using a,by simpa using b,by simpa using c,by simpa using e,by rw[iA];simp;omega⟩)))
 ·exact .inr (.inr (.inr (.inr ⟨by simpa using a,by simpa using b,by simpa using c,by simpa using e,by rw[iA];simp;omega⟩)))
theorem Ae (w:World)(x:Chk)(A:Option Addr)(n c:Nat)(hn:In w A n c x.cols)(A':Option Addr)(n' c':Nat)(af:In w A' n' c' x.ocols)(A'':Option Addr)(n'' c'':Nat)(y:In w A'' n'' c'' x.cond)(t:Option Addr)(r c1:Nat)(cols:List Col)(q:In w t r c1 cols)(U:Option Addr)(Q c2:Nat)(s:List Col)(ho:In w U Q c2 s)(D:Option Addr)(n5 G:Nat)(zs:List Zone)(z:In w D n5 G zs)(ac:n<=4096)(ad:n'<=4096)(L:r<=4096)(ae:Q<=4096)(v:mM x)(k4:(x.kind==4)=true)(k5:(x.kind==5)=false)(k6:(x.kind==6)=false)(p0:(x.policy==0)=true):
  Calls Tryz.prog 70 #[.agg (eP x A n c A' n' c' A'' n'' c'').toArray,.slice t r c1,.slice U Q c2,.slice D n5 G] w λe w'=>e=.returned (.int .i64 (gF x cols s zs))/\Below w.heap.size w w':=by
 have V:=Hm (by simpa using k5:¬x.kind=5);have d:=Hm (show gF x cols s zs=if fq cols≠0 then fq cols else if ku x cols zs≠0 then ku x cols zs else if x.kind=5/\(iA x.ln x.ld&&iA x.mn x.md)=false then 1 else 0 from by
  rw[kV x cols s zs v.1 v.2];have:l8 x.kind=true:=by rw[l8,k4,k5];rfl
  rw[this];simp)
 rw[ku]at d;have Y:=qw q;have F:=Hm λW y q z=>wu W A'' n'' c'' x.cond y t r c1 cols q Y D n5 G zs z;obtain⟨R,I⟩: ∃R,gF x cols s zs=R:=⟨_,rfl⟩;obtain⟨T,J⟩: ∃T,ig x.cond cols zs=T:=⟨_,rfl⟩;obtain⟨E,H⟩: ∃CE,fq cols=CE:=⟨_,rfl⟩;rw[I,J,H]at d;rw[J]at F;rw[I];have aa:=Hm H;clear I J H Y;obtain⟨S,C,tn⟩:=T;simp only at d F;obtain⟨d1,d2,d3,d4⟩:=v.dec;clear v;simp only[eP];go_enter Tryz.func70,Tryz.ntmps70;have HQ:=Hm y;clear y;have X:=Hm q;clear q;have HZ:=Hm z;clear z;go_wp2_with fail;obtain⟨W1,K⟩: ∃W,W=w.alloc (.cells #[.string x.name,.string x.table,.int .i64 x.kind,.slice A n c,.string x.other,.slice A' n' c',.int .i64 x.low,.int .i64 x.high,.slice A'' n'' c'',.int .i64 x.ln,.int .i64 x.ld,.int .i64 x.mn,.int .i64 x.md,.int .i64 x.policy] 27):=⟨_,rfl⟩;obtain⟨Z,ab,g,g1,g2,g3,g4,g5,g6,l,m,p,h,i,j,k⟩:=gZ K rfl;rw[<-K];clear K;have a:=Hm Z;clear Z;have u:=lt_of_cell g;go_wp2_with fail;refine(mG _ t r c1 cols (X.o.b a.o)).mono ?_;rintro e w6 ⟨rfl,rfl⟩;rw[aa.o];by_cases M:E=0;rotate_left
 ·have q0:(E != 0)=true:=by simpa using M
  obtain rfl:R=E:=by rw[d.o,if_pos M]
  go_wp2;all_goals(try(exfalso;go_light;simp_all;done));go_ret;exact⟨rfl,a.o⟩
 subst M;go_wp2_with fail;refine(F.o _ (HQ.o.b a.o) (X.o.b a.o) (HZ.o.b a.o)).mono ?_;rintro e w2 ⟨rfl,L⟩;have B:=lN g g1 g2 g3 g4 g5 g6 l m p h i j k;have f:=Hm L;clear L;by_cases P:S=0;rotate_left
 ·have q0:(S != 0)=true:=by simpa using P
  obtain rfl:R=S:=by rw[d.o];simp[P]
  obtain⟨u,g,g1,g2,g3,g4,g5,g6,l,m,p,h,i,j,k⟩:=B.o _ f.o;go_wp2;all_goals(try(exfalso;go_light;simp_all;done));go_ret;exact⟨rfl,(eu a.o f.o)⟩
 subst P;by_cases O:C=1
 ·subst O;have q1:((1:Int) != 1)=false:=by decide
  obtain rfl:R=0:=by rw[d.o];simp[V.o]
  obtain⟨u,g,g1,g2,g3,g4,g5,g6,l,m,p,h,i,j,k⟩:=B.o _ f.o;go_wp2;all_goals(try(exfalso;go_light;simp_all;done));go_ret;exact⟨rfl,(eu a.o f.o)⟩
 ·have q1:(C != 1)=true:=by simpa using O
  by_cases N:C=0
  ·subst N;have q2:((0:Int) != 0)=false:=by decide
   obtain rfl:R=0:=by rw[d.o];simp[V.o]
   obtain⟨u,g,g1,g2,g3,g4,g5,g6,l,m,p,h,i,j,k⟩:=B.o _ f.o;go_wp2;all_goals(try(exfalso;go_light;simp_all;done));go_ret;exact⟨rfl,(eu a.o f.o)⟩
  ·have q2:(C != 0)=true:=by simpa using N
   obtain rfl:R=7:=by rw[d.o];simp[O,N]
   obtain⟨u,g,g1,g2,g3,g4,g5,g6,l,m,p,h,i,j,k⟩:=B.o _ f.o;go_wp2;all_goals(try(exfalso;go_light;simp_all;done));go_ret;exact⟨rfl,(eu a.o f.o)⟩
theorem Af (w:World)(x:Chk)(A:Option Addr)(n c:Nat)(hn:In w A n c x.cols)(A':Option Addr)(n' c':Nat)(ag:In w A' n' c' x.ocols)(A'':Option Addr)(n'' c'':Nat)(y:In w A'' n'' c'' x.cond)(t:Option Addr)(r c1:Nat)(cols:List Col)(q:In w t r c1 cols)(S:Option Addr)(P c2:Nat)(s:List Col)(ho:In w S P c2 s)(D:Option Addr)(n5 G:Nat)(zs:List Zone)(z:In w D n5 G zs)(ac:n<=4096)(ad:n'<=4096)(ae:r<=4096)(af:P<=4096)(v:mM x)(k4:(x.kind==4)=true)(k5:(x.kind==5)=false)(p0:(x.policy==0)=false):
  Calls Tryz.prog 70 #[.agg (eP x A n c A' n' c' A'' n'' c'').toArray,.slice t r c1,.slice S P c2,.slice D n5 G] w λe w'=>e=.returned (.int .i64 (gF x cols s zs))/\Below w.heap.size w w':=by
 have U:=Hm (by simpa using k5:¬x.kind=5);have d:=Hm (show gF x cols s zs=if fq cols≠0 then fq cols else if ku x cols zs≠0 then ku x cols zs else if x.kind=5/\(iA x.ln x.ld&&iA x.mn x.md)=false then 1 else 0 from by
  rw[kV x cols s zs v.1 v.2];have:l8 x.kind=true:=by rw[l8,k4,k5];rfl
  rw[this];simp)
 rw[ku]at d;have X:=qw q;have F:=Hm λW y q z=>wu W A'' n'' c'' x.cond y t r c1 cols q X D n5 G zs z;obtain⟨R,I⟩: ∃R,gF x cols s zs=R:=⟨_,rfl⟩;obtain⟨T,J⟩: ∃T,ig x.cond cols zs=T:=⟨_,rfl⟩;obtain⟨E,H⟩: ∃CE,fq cols=CE:=⟨_,rfl⟩;rw[I,J,H]at d;rw[J]at F;rw[I];have aa:=Hm H;clear I J H X;obtain⟨Q,C,tn⟩:=T;simp only at d F;obtain⟨d1,d2,d3,d4⟩:=v.dec;clear v;simp only[eP];go_enter Tryz.func70,Tryz.ntmps70;have HQ:=Hm y;clear y;have V:=Hm q;clear q;have HZ:=Hm z;clear z;go_wp2_with fail;obtain⟨W1,K⟩: ∃W,W=w.alloc (.cells #[.string x.name,.string x.table,.int .i64 x.kind,.slice A n c,.string x.other,.slice A' n' c',.int .i64 x.low,.int .i64 x.high,.slice A'' n'' c'',.int .i64 x.ln,.int .i64 x.ld,.int .i64 x.mn,.int .i64 x.md,.int .i64 x.policy] 27):=⟨_,rfl⟩;obtain⟨Z,ab,g,g1,g2,g3,g4,g5,g6,l,m,p,h,i,j,k⟩:=gZ K rfl;rw[<-K];clear K;have a:=Hm Z;clear Z;have u:=lt_of_cell g;go_wp2_with fail;refine(mG _ t r c1 cols (V.o.b a.o)).mono ?_;rintro e w6 ⟨rfl,rfl⟩;rw[aa.o];by_cases L:E=0;rotate_left
 ·have q0:(E != 0)=true:=by simpa using L
  obtain rfl:R=E:=by rw[d.o,if_pos L]
  go_wp2;all_goals(try(exfalso;go_light;simp_all;done));go_ret;exact⟨rfl,a.o⟩
 subst L;go_wp2_with fail;refine(F.o _ (HQ.o.b a.o) (V.o.b a.o) (HZ.o.b a.o)).mono ?_;rintro e w6 ⟨rfl,Y⟩;have B:=lN g g1 g2 g3 g4 g5 g6 l m p h i j k;have f:=Hm Y;clear Y;by_cases O:Q=0;rotate_left
 ·have q0:(Q != 0)=true:=by simpa using O
  obtain rfl:R=Q:=by rw[d.o];simp[O]
  obtain⟨u,g,g1,g2,g3,g4,g5,g6,l,m,p,h,i,j,k⟩:=B.o _ f.o;go_wp2;all_goals(try(exfalso;go_light;simp_all;done));go_ret;exact⟨rfl,(eu a.o f.o)⟩
 subst O;by_cases N:C=1
 ·subst N;have q1:((1:Int) != 1)=false:=by decide
  obtain rfl:R=0:=by rw[d.o];simp[U.o]
  obtain⟨u,g,g1,g2,g3,g4,g5,g6,l,m,p,h,i,j,k⟩:=B.o _ f.o;go_wp2;all_goals(try(exfalso;go_light;simp_all;done));go_ret;exact⟨rfl,(eu a.o f.o)⟩
 ·have q1:(C != 1)=true:=by simpa using N
  by_cases M:C=0
  ·subst M;have q2:((0:Int) != 0)=false:=by decide
   obtain rfl:R=0:=by rw[d.o];simp[U.o]
   obtain⟨u,g,g1,g2,g3,g4,g5,g6,l,m,p,h,i,j,k⟩:=B.o _ f.o;go_wp2;all_goals(try(exfalso;go_light;simp_all;done));go_ret;exact⟨rfl,(eu a.o f.o)⟩
  ·have q2:(C != 0)=true:=by simpa using M
   obtain rfl:R=7:=by rw[d.o];simp[N,M]
   obtain⟨u,g,g1,g2,g3,g4,g5,g6,l,m,p,h,i,j,k⟩:=B.o _ f.o;go_wp2;all_goals(try(exfalso;go_light;simp_all;done));go_ret;exact⟨rfl,(eu a.o f.o)⟩
theorem Ag (w:World)(x:Chk)(A:Option Addr)(n c:Nat)(hn:In w A n c x.cols)(A':Option Addr)(n' c':Nat)(aD:In w A' n' c' x.ocols)(A'':Option Addr)(n'' c'':Nat)(hq:In w A'' n'' c'' x.cond)(Z:Option Addr)(X c1:Nat)(cols:List Col)(U:In w Z X c1 cols)(A2:Option Addr)(n2 c2:Nat)(Y:List Col)(ho:In w A2 n2 c2 Y)(A5:Option Addr)(n5 c5:Nat)(zs:List Zone)(hz:In w A5 n5 c5 zs)(az:n<=4096)(aA:n'<=4096)(aB:X<=4096)(aC:n2<=4096)(hp:mM x)(k4:(x.kind==4)=false)(k5:(x.kind==5)=true)(p0:(x.policy==0)=false):
  Calls Tryz.prog 70 #[.agg (eP x A n c A' n' c' A'' n'' c'').toArray,.slice Z X c1,.slice A2 n2 c2,.slice A5 n5 c5] w λe w'=>e=.returned (.int .i64 (gF x cols Y zs))/\Below w.heap.size w w':=by
 have H5:=Hm (by simpa using k5:x.kind=5);have C:=Hm (show gF x cols Y zs=if fq cols≠0 then fq cols else if ku x cols zs≠0 then ku x cols zs else if x.kind=5/\(iA x.ln x.ld&&iA x.mn x.md)=false then 1 else 0 from by
  rw[kV x cols Y zs hp.1 hp.2];have:l8 x.kind=true:=by rw[l8,k4,k5];rfl
  rw[this];simp)
 rw[ku]at C;have al:=qw U;have ae:=Hm λW hq U hz=>wu W A'' n'' c'' x.cond hq Z X c1 cols U al A5 n5 c5 zs hz;obtain⟨R,hR⟩: ∃R,gF x cols Y zs=R:=⟨_,rfl⟩;obtain⟨T,hT⟩: ∃T,ig x.cond cols zs=T:=⟨_,rfl⟩;obtain⟨C1,af⟩: ∃CE,fq cols=CE:=⟨_,rfl⟩;rw[hR,hT,af]at C;rw[hT]at ae;rw[hR];have av:=Hm af;clear hR hT af al;obtain⟨te,tk,tn⟩:=T;simp only at C ae;obtain⟨d1,d2,d3,d4⟩:=hp.dec;clear hp;simp only[eP];go_enter Tryz.func70,Tryz.ntmps70;have HQ:=Hm hq;clear hq;have HC:=Hm U;clear U;have HZ:=Hm hz;clear hz;go_wp2_with fail;obtain⟨W1,ag⟩: ∃W,W=w.alloc (.cells #[.string x.name,.string x.table,.int .i64 x.kind,.slice A n c,.string x.other,.slice A' n' c',.int .i64 x.low,.int .i64 x.high,.slice A'' n'' c'',.int .i64 x.ln,.int .i64 x.ld,.int .i64 x.mn,.int .i64 x.md,.int .i64 x.policy] 27):=⟨_,rfl⟩;obtain⟨ap,ay,d,g1,g2,g3,g4,g5,g6,l,m,p,f,g,h,j⟩:=gZ ag rfl;rw[<-ag];clear ag;have G:=Hm ap;clear ap;have u:=lt_of_cell d;go_wp2_with fail;refine(mG _ Z X c1 cols (HC.o.b G.o)).mono ?_;rintro e w6 ⟨rfl,rfl⟩;rw[av.o];by_cases ah:C1=0;rotate_left
 ·have q0:(C1 != 0)=true:=by simpa using ah
  obtain rfl:R=C1:=by rw[C.o,if_pos ah]
  go_wp2;all_goals(try(exfalso;go_light;simp_all;done));go_ret;exact⟨rfl,G.o⟩
 subst ah;go_wp2_with fail;refine(ae.o _ (HQ.o.b G.o) (HC.o.b G.o) (HZ.o.b G.o)).mono ?_;rintro e aq ⟨rfl,ao⟩;have N:=lN d g1 g2 g3 g4 g5 g6 l m p f g h j;have D:=Hm ao;clear ao;by_cases ht:te=0;rotate_left
 ·have q0:(te != 0)=true:=by simpa using ht
  obtain rfl:R=te:=by rw[C.o];simp[ht]
  obtain⟨u,d,g1,g2,g3,g4,g5,g6,l,m,p,f,g,h,j⟩:=N.o _ D.o;go_wp2;all_goals(try(exfalso;go_light;simp_all;done));go_ret;exact⟨rfl,(eu G.o D.o)⟩
 subst ht;by_cases aj:tk=1
 ·subst aj;have q1:((1:Int) != 1)=false:=by decide
  have B:Hl (R=if jm x 0=false then 1 else 0):=Hm (by rw[C.o,jm];simp[H5.o]);clear C;obtain⟨I,rfl⟩: ∃W,W=aq:=⟨_,rfl⟩;obtain⟨u,d,g1,g2,g3,g4,g5,g6,l,m,p,f,g,h,j⟩:=N.o _ D.o;go_upto_region 15 with (fail);go_wp2_with fail;obtain⟨P,K⟩: ∃W,W=I.alloc (.cells #[.int .i64 x.ln,.int .i64 x.ld,.int .i64 x.mn,.int .i64 x.md] 25):=⟨_,rfl⟩;obtain⟨S,aw,q,r,s,t⟩:=lM K rfl;rw[<-K];clear K;have am:=Hm S;clear S;have F:=lt_of_cell q;have ar:=Hm (eu D.o am.o);obtain⟨u,d,g1,g2,g3,g4,g5,g6,l,m,p,f,g,h,j⟩:=N.o _ ar.o;go_loopw [92] (λi wr=> ∃k:Nat,k<=2/\i=.int .i64 k/\jm x 0=jm x k/\Below P.heap.size P wr) (λi _=>2-(RowKit.intOf i).toNat)
  case atStart=>exact⟨0,Ho,rfl,rfl,IJ⟩
  case round=>
   obtain⟨k,hk,rfl,V,hb⟩:=hrel;have v:=Hm V;clear V;have aa:=nK (lN d g1 g2 g3 g4 g5 g6 l m p f g h j) (mr q r s t);have L:=Hm hb;clear hb;have ad:=Hm L.o;have O:=Hm (eu (eu (eu G.o D.o) am.o) L.o);by_cases ax:k<2
   ·have ak: ∃y rd,wr.cell? ⟨I.heap.size,k*2,none⟩=some (.int .i64 y)/\wr.cell? ⟨I.heap.size,k*2+1,none⟩=some (.int .i64 rd)/\Hl (jm x k=(iA y rd&&jm x (k+1))):=by
     rcases(by omega:k=0\/k=1) with rfl|rfl
     ·obtain⟨⟨u,d,g1,g2,g3,g4,g5,g6,l,m,p,f,g,h,j⟩,F,q,r,s,t⟩:=aa.o _ L.o;exact⟨x.ln,x.ld,q,r,Hm (by simp[jm])⟩
     ·obtain⟨⟨u,d,g1,g2,g3,g4,g5,g6,l,m,p,f,g,h,j⟩,F,q,r,s,t⟩:=aa.o _ L.o;exact⟨x.mn,x.md,s,t,Hm (by simp[jm])⟩
    obtain⟨y,rd,e0,e1,z⟩:=ak;have k0:(0:Int)<=(k:Int):=by omega
    have k1:(k:Int)<2:=by omega
    obtain⟨⟨u,d,g1,g2,g3,g4,g5,g6,l,m,p,f,g,h,j⟩,F,q,r,s,t⟩:=aa.o _ L.o;clear q r s t;have E:=Hm (eu O.o (eB (o:=.cells #[.int .i64 y,.int .i64 rd] 25)));have ac:=Hm (eu ad.o (eB (o:=.cells #[.int .i64 y,.int .i64 rd] 25)));rcases zx y rd with ⟨H,a⟩|⟨H,J,a⟩|⟨H,J,Q,a⟩|⟨H,J,Q,a4,a⟩|⟨H,J,Q,a4,a⟩
    ·obtain rfl:R=1:=by rw[B.o,v.o,z.o,a];simp
     clear a;go_wp2;all_goals(try(exfalso;go_light;simp_all;done));go_ret;exact⟨rfl,E.o⟩
    ·obtain rfl:R=1:=by rw[B.o,v.o,z.o,a];simp
     clear a;go_wp2;all_goals(try(exfalso;go_light;simp_all;done));go_ret;exact⟨rfl,E.o⟩
    ·obtain rfl:R=1:=by rw[B.o,v.o,z.o,a];simp
     clear a;go_wp2;all_goals(try(exfalso;go_light;simp_all;done));go_ret;exact⟨rfl,E.o⟩
    ·obtain rfl:R=1:=by rw[B.o,v.o,z.o,a];simp
     clear a;go_wp2;all_goals(try(exfalso;go_light;simp_all;done));go_ret;exact⟨rfl,E.o⟩
    ·have HN:Hl (jm x 0=jm x (k+1)):=Hm (by rw[v.o,z.o,a];simp);clear a;go_wp2;all_goals(try(exfalso;go_light;simp_all;done));go_roundw
     case rel=>exact⟨k+1,Ho,by go_num,HN.o,ac.o⟩
     case measure=>simp[RowKit.intOf];omega
   ·obtain rfl:k=2:=by omega
    obtain rfl:R=0:=by rw[B.o,v.o];simp[jm]
    obtain⟨⟨u,d,g1,g2,g3,g4,g5,g6,l,m,p,f,g,h,j⟩,F,q,r,s,t⟩:=aa.o _ L.o;go_wp2;all_goals(try(exfalso;go_light;simp_all;done));go_ret;exact⟨rfl,O.o⟩
 ·have q1:(tk != 1)=true:=by simpa using aj
  by_cases ai:tk=0
  ·subst ai;have q2:((0:Int) != 0)=false:=by decide
   have B:Hl (R=if jm x 0=false then 1 else 0):=Hm (by rw[C.o,jm];simp[H5.o]);clear C;obtain⟨I,rfl⟩: ∃W,W=aq:=⟨_,rfl⟩;obtain⟨u,d,g1,g2,g3,g4,g5,g6,l,m,p,f,g,h,j⟩:=N.o _ D.o;go_upto_region 15 with (fail);go_wp2_with fail;obtain⟨P,K⟩: ∃W,W=I.alloc (.cells #[.int .i64 x.ln,.int .i64 x.ld,.int .i64 x.mn,.int .i64 x.md] 25):=⟨_,rfl⟩;obtain⟨S,aw,q,r,s,t⟩:=lM K rfl;rw[<-K];clear K;have an:=Hm S;clear S;have F:=lt_of_cell q;have au:=Hm (eu D.o an.o);obtain⟨u,d,g1,g2,g3,g4,g5,g6,l,m,p,f,g,h,j⟩:=N.o _ au.o;go_loopw [92] (λi wr=> ∃k:Nat,k<=2/\i=.int .i64 k/\jm x 0=jm x k/\Below P.heap.size P wr) (λi _=>2-(RowKit.intOf i).toNat)
   case atStart=>exact⟨0,Ho,rfl,rfl,IJ⟩
   case round=>
    obtain⟨k,hk,rfl,V,hb⟩:=hrel;have v:=Hm V;clear V;have ab:=nK (lN d g1 g2 g3 g4 g5 g6 l m p f g h j) (mr q r s t);have M:=Hm hb;clear hb;have ad:=Hm M.o;have O:=Hm (eu (eu (eu G.o D.o) an.o) M.o);by_cases ax:k<2
    ·have ak: ∃y rd,wr.cell? ⟨I.heap.size,k*2,none⟩=some (.int .i64 y)/\wr.cell? ⟨I.heap.size,k*2+1,none⟩=some (.int .i64 rd)/\Hl (jm x k=(iA y rd&&jm x (k+1))):=by
      rcases(by omega:k=0\/k=1) with rfl|rfl
      ·obtain⟨⟨u,d,g1,g2,g3,g4,g5,g6,l,m,p,f,g,h,j⟩,F,q,r,s,t⟩:=ab.o _ M.o;exact⟨x.ln,x.ld,q,r,Hm (by simp[jm])⟩
      ·obtain⟨⟨u,d,g1,g2,g3,g4,g5,g6,l,m,p,f,g,h,j⟩,F,q,r,s,t⟩:=ab.o _ M.o;exact⟨x.mn,x.md,s,t,Hm (by simp[jm])⟩
     obtain⟨y,rd,e0,e1,z⟩:=ak;have k0:(0:Int)<=(k:Int):=by omega
     have k1:(k:Int)<2:=by omega
     obtain⟨⟨u,d,g1,g2,g3,g4,g5,g6,l,m,p,f,g,h,j⟩,F,q,r,s,t⟩:=ab.o _ M.o;clear q r s t;have E:=Hm (eu O.o (eB (o:=.cells #[.int .i64 y,.int .i64 rd] 25)));have ac:=Hm (eu ad.o (eB (o:=.cells #[.int .i64 y,.int .i64 rd] 25)));rcases zx y rd with ⟨H,a⟩|⟨H,J,a⟩|⟨H,J,Q,a⟩|⟨H,J,Q,a4,a⟩|⟨H,J,Q,a4,a⟩
     ·obtain rfl:R=1:=by rw[B.o,v.o,z.o,a];simp
      clear a;go_wp2;all_goals(try(exfalso;go_light;simp_all;done));go_ret;exact⟨rfl,E.o⟩
     ·obtain rfl:R=1:=by rw[B.o,v.o,z.o,a];simp
      clear a;go_wp2;all_goals(try(exfalso;go_light;simp_all;done));go_ret;exact⟨rfl,E.o⟩
     ·obtain rfl:R=1:=by rw[B.o,v.o,z.o,a];simp
      clear a;go_wp2;all_goals(try(exfalso;go_light;simp_all;done));go_ret;exact⟨rfl,E.o⟩
     ·obtain rfl:R=1:=by rw[B.o,v.o,z.o,a];simp
      clear a;go_wp2;all_goals(try(exfalso;go_light;simp_all;done));go_ret;exact⟨rfl,E.o⟩
     ·have HN:Hl (jm x 0=jm x (k+1)):=Hm (by rw[v.o,z.o,a];simp);clear a;go_wp2;all_goals(try(exfalso;go_light;simp_all;done));go_roundw
      case rel=>exact⟨k+1,Ho,by go_num,HN.o,ac.o⟩
      case measure=>simp[RowKit.intOf];omega
    ·obtain rfl:k=2:=by omega
     obtain rfl:R=0:=by rw[B.o,v.o];simp[jm]
     obtain⟨⟨u,d,g1,g2,g3,g4,g5,g6,l,m,p,f,g,h,j⟩,F,q,r,s,t⟩:=ab.o _ M.o;go_wp2;all_goals(try(exfalso;go_light;simp_all;done));go_ret;exact⟨rfl,O.o⟩
  ·have q2:(tk != 0)=true:=by simpa using ai
   obtain rfl:R=7:=by rw[C.o];simp[aj,ai]
   obtain⟨u,d,g1,g2,g3,g4,g5,g6,l,m,p,f,g,h,j⟩:=N.o _ D.o;go_wp2;all_goals(try(exfalso;go_light;simp_all;done));go_ret;exact⟨rfl,(eu G.o D.o)⟩
theorem zK (w:World)(x:Chk)(A:Option Addr)(n c:Nat)(r:In w A n c x.cols)(A':Option Addr)(n' c':Nat)(s:In w A' n' c' x.ocols)(A'':Option Addr)(n'' c'':Nat)(u:In w A'' n'' c'' x.cond)(f:Option Addr)(a c1:Nat)(cols:List Col)(q:In w f a c1 cols)(g:Option Addr)(b c2:Nat)(d:List Col)(t:In w g b c2 d)(h:Option Addr)(n5 i:Nat)(zs:List Zone)(v:In w h n5 i zs)(l:n<=4096)(m:n'<=4096)(o:a<=4096)(p:b<=4096):
  Calls Tryz.prog 70 #[.agg (eP x A n c A' n' c' A'' n'' c'').toArray,.slice f a c1,.slice g b c2,.slice h n5 i] w λe w'=>e=.returned (.int .i64 (gF x cols d zs))/\Below w.heap.size w w':=by
 by_cases j:mM x
 ·by_cases k:x.kind=4
  ·have y:(x.kind==4)=true:=by simpa using k
   have z:(x.kind==5)=false:=by rw[k];rfl
   cases B:(x.policy==0)
   ·exact Af w x A n c r A' n' c' s A'' n'' c'' u f a c1 cols q g b c2 d t h n5 i zs v l m o p j y z B
   ·exact Ae w x A n c r A' n' c' s A'' n'' c'' u f a c1 cols q g b c2 d t h n5 i zs v l m o p j y z (by rw[k];rfl) B
  ·by_cases C:x.kind=5
   ·have z:(x.kind==5)=true:=by simpa using C
    have y:(x.kind==4)=false:=by rw[C];rfl
    have B:(x.policy==0)=false:=by
     have:=j.2;simp only[beq_eq_false_iff_ne];omega
    exact Ag w x A n c r A' n' c' s A'' n'' c'' u f a c1 cols q g b c2 d t h n5 i zs v l m o p j y z B
   ·exact xS w x A n c r A' n' c' s A'' n'' c'' u f a c1 cols q g b c2 d t h n5 i zs v l m o p j k C
 ·exact zJ w x A n c A' n' c' A'' n'' c'' _ _ _ j cols d zs
theorem EG (w:World)(x:Chk)(A:Option Addr)(n c:Nat)(Q:In w A n c x.cols)(A':Option Addr)(n' c':Nat)(S:In w A' n' c' x.ocols)(A'':Option Addr)(n'' c'':Nat)(V:In w A'' n'' c'' x.cond)(rn:ByteArray)(J:Option Addr)(H c1:Nat)(cols:List Col)(f:In w J H c1 cols)(Z:Option Addr)(nk ck:Nat)(A3:Option Addr)(n3 c3:Nat)(rows:List Ent)(G:In w A3 n3 c3 rows)(on:ByteArray)(K:Option Addr)(I c2:Nat)(d:List Col)(T:In w K I c2 d)(Al:Option Addr)(nl cl:Nat)(O:Option Addr)(n4 c4:Nat)(u:List Ent)(ao:In w O n4 c4 u)(Y:Option Addr)(n5 c5:Nat)(zs:List Zone)(X:In w Y n5 c5 zs)(ar:n<=4096)(au:n'<=4096)(av:H<=4096)(aw:I<=4096):
  Calls Tryz.prog 39 #[.agg (eP x A n c A' n' c' A'' n'' c'').toArray,.agg #[.string rn,.slice J H c1,.slice Z nk ck,.slice A3 n3 c3],.agg #[.string on,.slice K I c2,.slice Al nl cl,.slice O n4 c4],.slice Y n5 c5] w
   λe w'=>e=.returned (.int .i64 (gu x cols d rows u zs))/\Below w.heap.size w w':=by
 have HV:=Hm λW Q S V f T X=>zK W x A n c Q A' n' c' S A'' n'' c'' V J H c1 cols f K I c2 d T Y n5 c5 zs X ar au av aw;have HU:=Hm λW=>pQ W x A n c A' n' c' A'' n'' c'';have af:=Hm λW f G=>Bp W rn J H c1 cols f Z nk ck A3 n3 c3 rows G;have ag:=Hm λW f G=>Bp W on K I c2 d f Al nl cl O n4 c4 u G;have L:=Hm (show gu x cols d rows u zs=if gF x cols d zs≠0 then gF x cols d zs else if ji cols rows≠0 then ji cols rows else if jk x.kind=true then ji d u else 0 from rfl);obtain⟨R,hR⟩: ∃R,gu x cols d rows u zs=R:=⟨_,rfl⟩;obtain⟨E1,aa⟩: ∃R,gF x cols d zs=R:=⟨_,rfl⟩;obtain⟨E2,ab⟩: ∃R,ji cols rows=R:=⟨_,rfl⟩;obtain⟨E3,ac⟩: ∃R,ji d u=R:=⟨_,rfl⟩;obtain⟨U,hU⟩: ∃R,jk x.kind=R:=⟨_,rfl⟩;rw[hR,aa,ab,ac,hU]at L;rw[aa]at HV;rw[ab]at af;rw[ac]at ag;rw[hU]at HU;rw[hR];clear hR aa ab ac hU;simp only[eP]at HV HU⊢;go_enter Tryz.func39,Tryz.ntmps39;have HN:=Hm Q;clear Q;have ap:=Hm S;clear S;have HQ:=Hm V;clear V;have HC:=Hm f;clear f;have HO:=Hm T;clear T;have HZ:=Hm X;clear X;have HR:=Hm G;clear G;have aq:=Hm ao;clear ao;go_wp2_with fail;obtain⟨W3,ai,ax,an,g⟩:=jJ w x A n c A' n' c' A'' n'' c'' rn J H c1 Z nk ck A3 n3 c3 on K I c2 Al nl cl O n4 c4;rw[<-ai];clear ai;have a:=Hm an;clear an;obtain⟨⟨j,k,g1,g2,g3,g4,g5,g6,r,s,t,l,m,p,q⟩,⟨h,v,y,z,B⟩,i,C,D,E,F⟩:=g.o _ IJ;go_wp2_with fail;refine(HV.o _ (HN.o.b a.o) (ap.o.b a.o) (HQ.o.b a.o) (HC.o.b a.o) (HO.o.b a.o) (HZ.o.b a.o)).mono ?_;rintro e ay ⟨rfl,aj⟩;have M:=Hm aj;clear aj;by_cases h1:E1=0;rotate_left
 ·have q1:(E1 != 0)=true:=by simpa using h1
  obtain rfl:R=E1:=by rw[L.o,if_pos h1]
  obtain⟨⟨j,k,g1,g2,g3,g4,g5,g6,r,s,t,l,m,p,q⟩,⟨h,v,y,z,B⟩,i,C,D,E,F⟩:=g.o _ M.o;go_wp2;all_goals(try(exfalso;go_light;simp_all;done));go_ret;exact⟨rfl,(eu a.o M.o)⟩
 subst h1;obtain⟨⟨j,k,g1,g2,g3,g4,g5,g6,r,s,t,l,m,p,q⟩,⟨h,v,y,z,B⟩,i,C,D,E,F⟩:=g.o _ M.o;go_wp2_with fail;have ad:=Hm (eu a.o M.o);refine(af.o _ (HC.o.b ad.o) (HR.o.b ad.o)).mono ?_;rintro e az ⟨rfl,ak⟩;have P:=Hm (eu M.o ak);clear ak;by_cases h2:E2=0;rotate_left
 ·have q2:(E2 != 0)=true:=by simpa using h2
  obtain rfl:R=E2:=by rw[L.o];simp[h2]
  obtain⟨⟨j,k,g1,g2,g3,g4,g5,g6,r,s,t,l,m,p,q⟩,⟨h,v,y,z,B⟩,i,C,D,E,F⟩:=g.o _ P.o;go_wp2;all_goals(try(exfalso;go_light;simp_all;done));go_ret;exact⟨rfl,(eu a.o P.o)⟩
 subst h2;obtain⟨⟨j,k,g1,g2,g3,g4,g5,g6,r,s,t,l,m,p,q⟩,⟨h,v,y,z,B⟩,i,C,D,E,F⟩:=g.o _ P.o;go_wp2_with fail;refine(HU.o _).mono ?_;rintro e aA ⟨rfl,al⟩;have N:=Hm (eu P.o al);clear al;cases U
 ·obtain rfl:R=0:=by rw[L.o];simp
  obtain⟨⟨j,k,g1,g2,g3,g4,g5,g6,r,s,t,l,m,p,q⟩,⟨h,v,y,z,B⟩,i,C,D,E,F⟩:=g.o _ N.o;go_wp2;all_goals(try(exfalso;go_light;simp_all;done));go_ret;exact⟨rfl,(eu a.o N.o)⟩
 ·obtain rfl:R=E3:=by rw[L.o];simp
  obtain⟨⟨j,k,g1,g2,g3,g4,g5,g6,r,s,t,l,m,p,q⟩,⟨h,v,y,z,B⟩,i,C,D,E,F⟩:=g.o _ N.o;go_wp2_with fail;have ae:=Hm (eu a.o N.o);refine(ag.o _ (HO.o.b ae.o) (aq.o.b ae.o)).mono ?_;rintro e aB ⟨rfl,am⟩;have ah:=Hm (eu N.o am);clear am;obtain⟨⟨j,k,g1,g2,g3,g4,g5,g6,r,s,t,l,m,p,q⟩,⟨h,v,y,z,B⟩,i,C,D,E,F⟩:=g.o _ ah.o;go_wp2;all_goals(try(exfalso;go_light;simp_all;done));go_ret;exact⟨rfl,(eu a.o ah.o)⟩
end Go.Proofs.YthnelebakkggjaaGreatDoor
