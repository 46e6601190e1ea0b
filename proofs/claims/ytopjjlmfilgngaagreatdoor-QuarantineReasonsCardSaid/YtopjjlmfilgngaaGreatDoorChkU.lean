/-
  warehouseref28.Validate: checks with conditions; whole. (Printed by gen_valr.py.)
-/
import Derived.Test.YtopjjlmfilgngaaGreatDoorGbf
namespace Go.Proofs.YtopjjlmfilgngaaGreatDoor
set_option maxHeartbeats 4000000
set_option maxRecDepth 100000
open Go.RowKit
set_option linter.unusedSimpArgs false
set_option linter.unusedVariables false
def jK (x:Chk)(k:Nat):Bool:=if k=0 then(jb x.ln x.ld&&jb x.mn x.md) else if k=1 then jb x.mn x.md else true
theorem zM (n d:Int):(decide (n<0)=true/\jb n d=false)\/(decide (n<0)=false/\decide (1073741824<n)=true/\jb n d=false)\/(decide (n<0)=false/\decide (1073741824<n)=false/\decide (d<1)=true/\jb n d=false)
  \/(decide (n<0)=false/\decide (1073741824<n)=false/\decide (d<1)=false/\decide (1073741824<d)=true/\jb n d=false)\/(decide (n<0)=false/\decide (1073741824<n)=false/\decide (d<1)=false/\decide (1073741824<d)=false/\jb n d=true):=by
 by_cases a:n<0
 ·exact .inl ⟨by simpa using a,by rw[jb];simp;omega⟩
 by_cases b:1073741824<n
 ·exact .inr (.inl ⟨by simpa using a,by simpa using b,by rw[jb];simp;omega⟩)
 by_cases c:d<1
 ·exact .inr (.inr (.inl ⟨by simpa using a,by simpa using b,by simpa using c,by rw[jb];simp;omega⟩))
 by_cases e:1073741824<d
 ·exact .inr (.inr (.inr (.inl ⟨by simpa using a,by simpa using b,by simpa using c,by simpa using e,by rw[jb];simp;omega⟩)))
 ·exact .inr (.inr (.inr (.inr ⟨by simpa using a,by simpa using b,by simpa using c,by simpa using e,by rw[jb];simp;omega⟩)))
theorem AZ (w:World)(x:Chk)(A:Option Addr)(n c:Nat)(hn:In w A n c x.cols)(A':Option Addr)(n' c':Nat)(ah:In w A' n' c' x.ocols)(A'':Option Addr)(n'' c'':Nat)(D:In w A'' n'' c'' x.cond)(z:Option Addr)(v c1:Nat)(cols:List Col)(u:In w z v c1 cols)(A2:Option Addr)(n2 c2:Nat)(y:List Col)(ho:In w A2 n2 c2 y)(H:Option Addr)(n5 K:Nat)(zs:List Zone)(E:In w H n5 K zs)(ae:n<=4096)(af:n'<=4096)(P:v<=4096)(ag:n2<=4096)(C:mQ x)(k4:(x.kind==4)=true)(k5:(x.kind==5)=false)(k6:(x.kind==6)=false)(p0:(x.policy==0)=true):
  Calls Tryz.prog 65 #[.agg (fZ x A n c A' n' c' A'' n'' c'').toArray,.slice z v c1,.slice A2 n2 c2,.slice H n5 K] w λe w'=>e=.returned (.int .i64 (gQ x cols y zs))/\Below w.heap.size w w':=by
 have Y:=Hm (by simpa using k5:¬x.kind=5);have b:=Hm (show gQ x cols y zs=if gu cols≠0 then gu cols else if kC x cols zs≠0 then kC x cols zs else if x.kind=5/\(jb x.ln x.ld&&jb x.mn x.md)=false then 1 else 0 from by
  rw[kZ x cols y zs C.1 C.2];have:mg x.kind=true:=by rw[mg,k4,k5];rfl
  rw[this];simp)
 rw[kC]at b;have aa:=qo u;have J:=Hm λW D u E=>wP W A'' n'' c'' x.cond D z v c1 cols u aa H n5 K zs E;obtain⟨R,M⟩: ∃R,gQ x cols y zs=R:=⟨_,rfl⟩;obtain⟨T,N⟩: ∃T,iX x.cond cols zs=T:=⟨_,rfl⟩;obtain⟨I,L⟩: ∃CE,gu cols=CE:=⟨_,rfl⟩;rw[M,N,L]at b;rw[N]at J;rw[M];have ac:=Hm L;clear M N L aa;obtain⟨X,G,tn⟩:=T;simp only at b J;obtain⟨d1,d2,d3,d4⟩:=C.dec;clear C;simp only[fZ];go_enter Tryz.func65,Tryz.ntmps65;have HQ:=Hm D;clear D;have Z:=Hm u;clear u;have HZ:=Hm E;clear E;go_wp2_with fail;obtain⟨W1,O⟩: ∃W,W=w.alloc (.cells #[.string x.name,.string x.table,.int .i64 x.kind,.slice A n c,.string x.other,.slice A' n' c',.int .i64 x.low,.int .i64 x.high,.slice A'' n'' c'',.int .i64 x.ln,.int .i64 x.ld,.int .i64 x.mn,.int .i64 x.md,.int .i64 x.policy] 48):=⟨_,rfl⟩;obtain⟨ab,ad,f,g,l,m,g4,p,q,r,s,t,h,i,j,k⟩:=iE O rfl;rw[<-O];clear O;have a:=Hm ab;clear ab;have B:=lt_of_cell f;go_wp2_with fail;refine(mJ _ z v c1 cols (Z.o.below a.o)).mono ?_;rintro e w6 ⟨rfl,rfl⟩;rw[ac.o];by_cases Q:I=0;rotate_left
 ·have q0:(I != 0)=true:=by simpa using Q
  obtain rfl:R=I:=by rw[b.o,if_pos Q]
  go_wp2;all_goals(try(exfalso;go_light;simp_all;done));go_ret;exact⟨rfl,a.o⟩
 subst Q;go_wp2_with fail;refine(J.o _ (HQ.o.below a.o) (Z.o.below a.o) (HZ.o.below a.o)).mono ?_;rintro e w2 ⟨rfl,P⟩;have F:=lq f g l m g4 p q r s t h i j k;have d:=Hm P;clear P;by_cases V:X=0;rotate_left
 ·have q0:(X != 0)=true:=by simpa using V
  obtain rfl:R=X:=by rw[b.o];simp[V]
  obtain⟨B,f,g,l,m,g4,p,q,r,s,t,h,i,j,k⟩:=F.o _ d.o;go_wp2;all_goals(try(exfalso;go_light;simp_all;done));go_ret;exact⟨rfl,(fH a.o d.o)⟩
 subst V;by_cases U:G=1
 ·subst U;have q1:((1:Int) != 1)=false:=by decide
  obtain rfl:R=0:=by rw[b.o];simp[Y.o]
  obtain⟨B,f,g,l,m,g4,p,q,r,s,t,h,i,j,k⟩:=F.o _ d.o;go_wp2;all_goals(try(exfalso;go_light;simp_all;done));go_ret;exact⟨rfl,(fH a.o d.o)⟩
 ·have q1:(G != 1)=true:=by simpa using U
  by_cases S:G=0
  ·subst S;have q2:((0:Int) != 0)=false:=by decide
   obtain rfl:R=0:=by rw[b.o];simp[Y.o]
   obtain⟨B,f,g,l,m,g4,p,q,r,s,t,h,i,j,k⟩:=F.o _ d.o;go_wp2;all_goals(try(exfalso;go_light;simp_all;done));go_ret;exact⟨rfl,(fH a.o d.o)⟩
  ·have q2:(G != 0)=true:=by simpa using S
   obtain rfl:R=7:=by rw[b.o];simp[U,S]
   obtain⟨B,f,g,l,m,g4,p,q,r,s,t,h,i,j,k⟩:=F.o _ d.o;go_wp2;all_goals(try(exfalso;go_light;simp_all;done));go_ret;exact⟨rfl,(fH a.o d.o)⟩
theorem Ba (w:World)(x:Chk)(A:Option Addr)(n c:Nat)(hn:In w A n c x.cols)(A':Option Addr)(n' c':Nat)(ai:In w A' n' c' x.ocols)(A'':Option Addr)(n'' c'':Nat)(D:In w A'' n'' c'' x.cond)(z:Option Addr)(v c1:Nat)(cols:List Col)(u:In w z v c1 cols)(A2:Option Addr)(n2 c2:Nat)(y:List Col)(ho:In w A2 n2 c2 y)(H:Option Addr)(n5 K:Nat)(zs:List Zone)(E:In w H n5 K zs)(ae:n<=4096)(af:n'<=4096)(ag:v<=4096)(ah:n2<=4096)(C:mQ x)(k4:(x.kind==4)=true)(k5:(x.kind==5)=false)(p0:(x.policy==0)=false):
  Calls Tryz.prog 65 #[.agg (fZ x A n c A' n' c' A'' n'' c'').toArray,.slice z v c1,.slice A2 n2 c2,.slice H n5 K] w λe w'=>e=.returned (.int .i64 (gQ x cols y zs))/\Below w.heap.size w w':=by
 have X:=Hm (by simpa using k5:¬x.kind=5);have b:=Hm (show gQ x cols y zs=if gu cols≠0 then gu cols else if kC x cols zs≠0 then kC x cols zs else if x.kind=5/\(jb x.ln x.ld&&jb x.mn x.md)=false then 1 else 0 from by
  rw[kZ x cols y zs C.1 C.2];have:mg x.kind=true:=by rw[mg,k4,k5];rfl
  rw[this];simp)
 rw[kC]at b;have Z:=qo u;have J:=Hm λW D u E=>wP W A'' n'' c'' x.cond D z v c1 cols u Z H n5 K zs E;obtain⟨R,M⟩: ∃R,gQ x cols y zs=R:=⟨_,rfl⟩;obtain⟨T,N⟩: ∃T,iX x.cond cols zs=T:=⟨_,rfl⟩;obtain⟨I,L⟩: ∃CE,gu cols=CE:=⟨_,rfl⟩;rw[M,N,L]at b;rw[N]at J;rw[M];have ac:=Hm L;clear M N L Z;obtain⟨V,G,tn⟩:=T;simp only at b J;obtain⟨d1,d2,d3,d4⟩:=C.dec;clear C;simp only[fZ];go_enter Tryz.func65,Tryz.ntmps65;have HQ:=Hm D;clear D;have Y:=Hm u;clear u;have HZ:=Hm E;clear E;go_wp2_with fail;obtain⟨W1,O⟩: ∃W,W=w.alloc (.cells #[.string x.name,.string x.table,.int .i64 x.kind,.slice A n c,.string x.other,.slice A' n' c',.int .i64 x.low,.int .i64 x.high,.slice A'' n'' c'',.int .i64 x.ln,.int .i64 x.ld,.int .i64 x.mn,.int .i64 x.md,.int .i64 x.policy] 48):=⟨_,rfl⟩;obtain⟨ab,ad,f,g,l,m,g4,p,q,r,s,t,h,i,j,k⟩:=iE O rfl;rw[<-O];clear O;have a:=Hm ab;clear ab;have B:=lt_of_cell f;go_wp2_with fail;refine(mJ _ z v c1 cols (Y.o.below a.o)).mono ?_;rintro e w6 ⟨rfl,rfl⟩;rw[ac.o];by_cases P:I=0;rotate_left
 ·have q0:(I != 0)=true:=by simpa using P
  obtain rfl:R=I:=by rw[b.o,if_pos P]
  go_wp2;all_goals(try(exfalso;go_light;simp_all;done));go_ret;exact⟨rfl,a.o⟩
 subst P;go_wp2_with fail;refine(J.o _ (HQ.o.below a.o) (Y.o.below a.o) (HZ.o.below a.o)).mono ?_;rintro e w6 ⟨rfl,aa⟩;have F:=lq f g l m g4 p q r s t h i j k;have d:=Hm aa;clear aa;by_cases U:V=0;rotate_left
 ·have q0:(V != 0)=true:=by simpa using U
  obtain rfl:R=V:=by rw[b.o];simp[U]
  obtain⟨B,f,g,l,m,g4,p,q,r,s,t,h,i,j,k⟩:=F.o _ d.o;go_wp2;all_goals(try(exfalso;go_light;simp_all;done));go_ret;exact⟨rfl,(fH a.o d.o)⟩
 subst U;by_cases S:G=1
 ·subst S;have q1:((1:Int) != 1)=false:=by decide
  obtain rfl:R=0:=by rw[b.o];simp[X.o]
  obtain⟨B,f,g,l,m,g4,p,q,r,s,t,h,i,j,k⟩:=F.o _ d.o;go_wp2;all_goals(try(exfalso;go_light;simp_all;done));go_ret;exact⟨rfl,(fH a.o d.o)⟩
 ·have q1:(G != 1)=true:=by simpa using S
  by_cases Q:G=0
  ·subst Q;have q2:((0:Int) != 0)=false:=by decide
   obtain rfl:R=0:=by rw[b.o];simp[X.o]
   obtain⟨B,f,g,l,m,g4,p,q,r,s,t,h,i,j,k⟩:=F.o _ d.o;go_wp2;all_goals(try(exfalso;go_light;simp_all;done));go_ret;exact⟨rfl,(fH a.o d.o)⟩
  ·have q2:(G != 0)=true:=by simpa using Q
   obtain rfl:R=7:=by rw[b.o];simp[S,Q]
   obtain⟨B,f,g,l,m,g4,p,q,r,s,t,h,i,j,k⟩:=F.o _ d.o;go_wp2;all_goals(try(exfalso;go_light;simp_all;done));go_ret;exact⟨rfl,(fH a.o d.o)⟩
theorem Bb (w:World)(x:Chk)(A:Option Addr)(n c:Nat)(hn:In w A n c x.cols)(A':Option Addr)(n' c':Nat)(aF:In w A' n' c' x.ocols)(A'':Option Addr)(n'' c'':Nat)(hq:In w A'' n'' c'' x.cond)(A1:Option Addr)(n1 c1:Nat)(cols:List Col)(Z:In w A1 n1 c1 cols)(A2:Option Addr)(n2 c2:Nat)(ab:List Col)(ho:In w A2 n2 c2 ab)(A5:Option Addr)(n5 c5:Nat)(zs:List Zone)(hz:In w A5 n5 c5 zs)(aB:n<=4096)(aC:n'<=4096)(aD:n1<=4096)(aE:n2<=4096)(hp:mQ x)(k4:(x.kind==4)=false)(k5:(x.kind==5)=true)(p0:(x.policy==0)=false):
  Calls Tryz.prog 65 #[.agg (fZ x A n c A' n' c' A'' n'' c'').toArray,.slice A1 n1 c1,.slice A2 n2 c2,.slice A5 n5 c5] w λe w'=>e=.returned (.int .i64 (gQ x cols ab zs))/\Below w.heap.size w w':=by
 have H5:=Hm (by simpa using k5:x.kind=5);have G:=Hm (show gQ x cols ab zs=if gu cols≠0 then gu cols else if kC x cols zs≠0 then kC x cols zs else if x.kind=5/\(jb x.ln x.ld&&jb x.mn x.md)=false then 1 else 0 from by
  rw[kZ x cols ab zs hp.1 hp.2];have:mg x.kind=true:=by rw[mg,k4,k5];rfl
  rw[this];simp)
 rw[kC]at G;have an:=qo Z;have ag:=Hm λW hq Z hz=>wP W A'' n'' c'' x.cond hq A1 n1 c1 cols Z an A5 n5 c5 zs hz;obtain⟨R,hR⟩: ∃R,gQ x cols ab zs=R:=⟨_,rfl⟩;obtain⟨T,hT⟩: ∃T,iX x.cond cols zs=T:=⟨_,rfl⟩;obtain⟨C1,ah⟩: ∃CE,gu cols=CE:=⟨_,rfl⟩;rw[hR,hT,ah]at G;rw[hT]at ag;rw[hR];have ax:=Hm ah;clear hR hT ah an;obtain⟨te,tk,tn⟩:=T;simp only at G ag;obtain⟨d1,d2,d3,d4⟩:=hp.dec;clear hp;simp only[fZ];go_enter Tryz.func65,Tryz.ntmps65;have HQ:=Hm hq;clear hq;have HC:=Hm Z;clear Z;have HZ:=Hm hz;clear hz;go_wp2_with fail;obtain⟨W1,ai⟩: ∃W,W=w.alloc (.cells #[.string x.name,.string x.table,.int .i64 x.kind,.slice A n c,.string x.other,.slice A' n' c',.int .i64 x.low,.int .i64 x.high,.slice A'' n'' c'',.int .i64 x.ln,.int .i64 x.ld,.int .i64 x.mn,.int .i64 x.md,.int .i64 x.policy] 48):=⟨_,rfl⟩;obtain⟨ar,aA,b,d,l,m,g4,p,q,r,s,t,f,g,h,j⟩:=iE ai rfl;rw[<-ai];clear ai;have K:=Hm ar;clear ar;have B:=lt_of_cell b;go_wp2_with fail;refine(mJ _ A1 n1 c1 cols (HC.o.below K.o)).mono ?_;rintro e w6 ⟨rfl,rfl⟩;rw[ax.o];by_cases aj:C1=0;rotate_left
 ·have q0:(C1 != 0)=true:=by simpa using aj
  obtain rfl:R=C1:=by rw[G.o,if_pos aj]
  go_wp2;all_goals(try(exfalso;go_light;simp_all;done));go_ret;exact⟨rfl,K.o⟩
 subst aj;go_wp2_with fail;refine(ag.o _ (HQ.o.below K.o) (HC.o.below K.o) (HZ.o.below K.o)).mono ?_;rintro e au ⟨rfl,aq⟩;have S:=lq b d l m g4 p q r s t f g h j;have H:=Hm aq;clear aq;by_cases ht:te=0;rotate_left
 ·have q0:(te != 0)=true:=by simpa using ht
  obtain rfl:R=te:=by rw[G.o];simp[ht]
  obtain⟨B,b,d,l,m,g4,p,q,r,s,t,f,g,h,j⟩:=S.o _ H.o;go_wp2;all_goals(try(exfalso;go_light;simp_all;done));go_ret;exact⟨rfl,(fH K.o H.o)⟩
 subst ht;by_cases al:tk=1
 ·subst al;have q1:((1:Int) != 1)=false:=by decide
  have F:Hl (R=if jK x 0=false then 1 else 0):=Hm (by rw[G.o,jK];simp[H5.o]);clear G;obtain⟨M,rfl⟩: ∃W,W=au:=⟨_,rfl⟩;obtain⟨B,b,d,l,m,g4,p,q,r,s,t,f,g,h,j⟩:=S.o _ H.o;go_upto_region 15 with (fail);go_wp2_with fail;obtain⟨V,O⟩: ∃W,W=M.alloc (.cells #[.int .i64 x.ln,.int .i64 x.ld,.int .i64 x.mn,.int .i64 x.md] 46):=⟨_,rfl⟩;obtain⟨Y,ay,u,v,y,z⟩:=jV O rfl;rw[<-O];clear O;have ao:=Hm Y;clear Y;have J:=lt_of_cell u;have av:=Hm (fH H.o ao.o);obtain⟨B,b,d,l,m,g4,p,q,r,s,t,f,g,h,j⟩:=S.o _ av.o;go_loopw [92] (λi wr=> ∃k:Nat,k<=2/\i=.int .i64 k/\jK x 0=jK x k/\Below V.heap.size V wr) (λi _=>2-(RowKit.intOf i).toNat)
  case atStart=>exact⟨0,by omega,rfl,rfl,Below.refl _ _⟩
  case round=>
   obtain⟨k,hk,rfl,aa,hb⟩:=hrel;have C:=Hm aa;clear aa;have ac:=rE (lq b d l m g4 p q r s t f g h j) (kJ u v y z);have P:=Hm hb;clear hb;have af:=Hm P.o;have U:=Hm (fH (fH (fH K.o H.o) ao.o) P.o);by_cases az:k<2
   ·have am: ∃D rd,wr.cell? ⟨M.heap.size,k*2,none⟩=some (.int .i64 D)/\wr.cell? ⟨M.heap.size,k*2+1,none⟩=some (.int .i64 rd)/\Hl (jK x k=(jb D rd&&jK x (k+1))):=by
     rcases(by omega:k=0\/k=1) with rfl|rfl
     ·obtain⟨⟨B,b,d,l,m,g4,p,q,r,s,t,f,g,h,j⟩,J,u,v,y,z⟩:=ac.o _ P.o;exact⟨x.ln,x.ld,u,v,Hm (by simp[jK])⟩
     ·obtain⟨⟨B,b,d,l,m,g4,p,q,r,s,t,f,g,h,j⟩,J,u,v,y,z⟩:=ac.o _ P.o;exact⟨x.mn,x.md,y,z,Hm (by simp[jK])⟩
    obtain⟨D,rd,e0,e1,E⟩:=am;have k0:(0:Int)<=(k:Int):=by omega
    have k1:(k:Int)<2:=by omega
    obtain⟨⟨B,b,d,l,m,g4,p,q,r,s,t,f,g,h,j⟩,J,u,v,y,z⟩:=ac.o _ P.o;clear u v y z;have I:=Hm (fH U.o (fI (o:=.cells #[.int .i64 D,.int .i64 rd] 46)));have ae:=Hm (fH af.o (fI (o:=.cells #[.int .i64 D,.int .i64 rd] 46)));rcases zM D rd with ⟨L,a⟩|⟨L,N,a⟩|⟨L,N,X,a⟩|⟨L,N,X,a4,a⟩|⟨L,N,X,a4,a⟩
    ·obtain rfl:R=1:=by rw[F.o,C.o,E.o,a];simp
     clear a;go_wp2;all_goals(try(exfalso;go_light;simp_all;done));go_ret;exact⟨rfl,I.o⟩
    ·obtain rfl:R=1:=by rw[F.o,C.o,E.o,a];simp
     clear a;go_wp2;all_goals(try(exfalso;go_light;simp_all;done));go_ret;exact⟨rfl,I.o⟩
    ·obtain rfl:R=1:=by rw[F.o,C.o,E.o,a];simp
     clear a;go_wp2;all_goals(try(exfalso;go_light;simp_all;done));go_ret;exact⟨rfl,I.o⟩
    ·obtain rfl:R=1:=by rw[F.o,C.o,E.o,a];simp
     clear a;go_wp2;all_goals(try(exfalso;go_light;simp_all;done));go_ret;exact⟨rfl,I.o⟩
    ·have HN:Hl (jK x 0=jK x (k+1)):=Hm (by rw[C.o,E.o,a];simp);clear a;go_wp2;all_goals(try(exfalso;go_light;simp_all;done));go_roundw
     case rel=>exact⟨k+1,by omega,by go_num,HN.o,ae.o⟩
     case measure=>simp[RowKit.intOf];omega
   ·obtain rfl:k=2:=by omega
    obtain rfl:R=0:=by rw[F.o,C.o];simp[jK]
    obtain⟨⟨B,b,d,l,m,g4,p,q,r,s,t,f,g,h,j⟩,J,u,v,y,z⟩:=ac.o _ P.o;go_wp2;all_goals(try(exfalso;go_light;simp_all;done));go_ret;exact⟨rfl,U.o⟩
 ·have q1:(tk != 1)=true:=by simpa using al
  by_cases ak:tk=0
  ·subst ak;have q2:((0:Int) != 0)=false:=by decide
   have F:Hl (R=if jK x 0=false then 1 else 0):=Hm (by rw[G.o,jK];simp[H5.o]);clear G;obtain⟨M,rfl⟩: ∃W,W=au:=⟨_,rfl⟩;obtain⟨B,b,d,l,m,g4,p,q,r,s,t,f,g,h,j⟩:=S.o _ H.o;go_upto_region 15 with (fail);go_wp2_with fail;obtain⟨V,O⟩: ∃W,W=M.alloc (.cells #[.int .i64 x.ln,.int .i64 x.ld,.int .i64 x.mn,.int .i64 x.md] 46):=⟨_,rfl⟩;obtain⟨Y,ay,u,v,y,z⟩:=jV O rfl;rw[<-O];clear O;have ap:=Hm Y;clear Y;have J:=lt_of_cell u;have aw:=Hm (fH H.o ap.o);obtain⟨B,b,d,l,m,g4,p,q,r,s,t,f,g,h,j⟩:=S.o _ aw.o;go_loopw [92] (λi wr=> ∃k:Nat,k<=2/\i=.int .i64 k/\jK x 0=jK x k/\Below V.heap.size V wr) (λi _=>2-(RowKit.intOf i).toNat)
   case atStart=>exact⟨0,by omega,rfl,rfl,Below.refl _ _⟩
   case round=>
    obtain⟨k,hk,rfl,aa,hb⟩:=hrel;have C:=Hm aa;clear aa;have ad:=rE (lq b d l m g4 p q r s t f g h j) (kJ u v y z);have Q:=Hm hb;clear hb;have af:=Hm Q.o;have U:=Hm (fH (fH (fH K.o H.o) ap.o) Q.o);by_cases az:k<2
    ·have am: ∃D rd,wr.cell? ⟨M.heap.size,k*2,none⟩=some (.int .i64 D)/\wr.cell? ⟨M.heap.size,k*2+1,none⟩=some (.int .i64 rd)/\Hl (jK x k=(jb D rd&&jK x (k+1))):=by
      rcases(by omega:k=0\/k=1) with rfl|rfl
      ·obtain⟨⟨B,b,d,l,m,g4,p,q,r,s,t,f,g,h,j⟩,J,u,v,y,z⟩:=ad.o _ Q.o;exact⟨x.ln,x.ld,u,v,Hm (by simp[jK])⟩
      ·obtain⟨⟨B,b,d,l,m,g4,p,q,r,s,t,f,g,h,j⟩,J,u,v,y,z⟩:=ad.o _ Q.o;exact⟨x.mn,x.md,y,z,Hm (by simp[jK])⟩
     obtain⟨D,rd,e0,e1,E⟩:=am;have k0:(0:Int)<=(k:Int):=by omega
     have k1:(k:Int)<2:=by omega
     obtain⟨⟨B,b,d,l,m,g4,p,q,r,s,t,f,g,h,j⟩,J,u,v,y,z⟩:=ad.o _ Q.o;clear u v y z;have I:=Hm (fH U.o (fI (o:=.cells #[.int .i64 D,.int .i64 rd] 46)));have ae:=Hm (fH af.o (fI (o:=.cells #[.int .i64 D,.int .i64 rd] 46)));rcases zM D rd with ⟨L,a⟩|⟨L,N,a⟩|⟨L,N,X,a⟩|⟨L,N,X,a4,a⟩|⟨L,N,X,a4,a⟩
     ·obtain rfl:R=1:=by rw[F.o,C.o,E.o,a];simp
      clear a;go_wp2;all_goals(try(exfalso;go_light;simp_all;done));go_ret;exact⟨rfl,I.o⟩
     ·obtain rfl:R=1:=by rw[F.o,C.o,E.o,a];simp
      clear a;go_wp2;all_goals(try(exfalso;go_light;simp_all;done));go_ret;exact⟨rfl,I.o⟩
     ·obtain rfl:R=1:=by rw[F.o,C.o,E.o,a];simp
      clear a;go_wp2;all_goals(try(exfalso;go_light;simp_all;done));go_ret;exact⟨rfl,I.o⟩
     ·obtain rfl:R=1:=by rw[F.o,C.o,E.o,a];simp
      clear a;go_wp2;all_goals(try(exfalso;go_light;simp_all;done));go_ret;exact⟨rfl,I.o⟩
     ·have HN:Hl (jK x 0=jK x (k+1)):=Hm (by rw[C.o,E.o,a];simp);clear a;go_wp2;all_goals(try(exfalso;go_light;simp_all;done));go_roundw
      case rel=>exact⟨k+1,by omega,by go_num,HN.o,ae.o⟩
      case measure=>simp[RowKit.intOf];omega
    ·obtain rfl:k=2:=by omega
     obtain rfl:R=0:=by rw[F.o,C.o];simp[jK]
     obtain⟨⟨B,b,d,l,m,g4,p,q,r,s,t,f,g,h,j⟩,J,u,v,y,z⟩:=ad.o _ Q.o;go_wp2;all_goals(try(exfalso;go_light;simp_all;done));go_ret;exact⟨rfl,U.o⟩
  ·have q2:(tk != 0)=true:=by simpa using ak
   obtain rfl:R=7:=by rw[G.o];simp[al,ak]
   obtain⟨B,b,d,l,m,g4,p,q,r,s,t,f,g,h,j⟩:=S.o _ H.o;go_wp2;all_goals(try(exfalso;go_light;simp_all;done));go_ret;exact⟨rfl,(fH K.o H.o)⟩
theorem zZ (w:World)(x:Chk)(A:Option Addr)(n c:Nat)(p:In w A n c x.cols)(A':Option Addr)(n' c':Nat)(q:In w A' n' c' x.ocols)(A'':Option Addr)(n'' c'':Nat)(s:In w A'' n'' c'' x.cond)(d:Option Addr)(a c1:Nat)(cols:List Col)(o:In w d a c1 cols)(A2:Option Addr)(n2 c2:Nat)(b:List Col)(r:In w A2 n2 c2 b)(f:Option Addr)(n5 g:Nat)(zs:List Zone)(t:In w f n5 g zs)(j:n<=4096)(k:n'<=4096)(l:a<=4096)(m:n2<=4096):
  Calls Tryz.prog 65 #[.agg (fZ x A n c A' n' c' A'' n'' c'').toArray,.slice d a c1,.slice A2 n2 c2,.slice f n5 g] w λe w'=>e=.returned (.int .i64 (gQ x cols b zs))/\Below w.heap.size w w':=by
 by_cases h:mQ x
 ·by_cases i:x.kind=4
  ·have u:(x.kind==4)=true:=by simpa using i
   have v:(x.kind==5)=false:=by rw[i];rfl
   cases y:(x.policy==0)
   ·exact Ba w x A n c p A' n' c' q A'' n'' c'' s d a c1 cols o A2 n2 c2 b r f n5 g zs t j k l m h u v y
   ·exact AZ w x A n c p A' n' c' q A'' n'' c'' s d a c1 cols o A2 n2 c2 b r f n5 g zs t j k l m h u v (by rw[i];rfl) y
  ·by_cases z:x.kind=5
   ·have v:(x.kind==5)=true:=by simpa using z
    have u:(x.kind==4)=false:=by rw[z];rfl
    have y:(x.policy==0)=false:=by
     have:=h.2;simp only[beq_eq_false_iff_ne];omega
    exact Bb w x A n c p A' n' c' q A'' n'' c'' s d a c1 cols o A2 n2 c2 b r f n5 g zs t j k l m h u v y
   ·exact yt w x A n c p A' n' c' q A'' n'' c'' s d a c1 cols o A2 n2 c2 b r f n5 g zs t j k l m h i z
 ·exact zY w x A n c A' n' c' A'' n'' c'' _ _ _ h cols b zs
theorem FK (w:World)(x:Chk)(A:Option Addr)(n c:Nat)(T:In w A n c x.cols)(A':Option Addr)(n' c':Nat)(V:In w A' n' c' x.ocols)(A'':Option Addr)(n'' c'':Nat)(Y:In w A'' n'' c'' x.cond)(rn:ByteArray)(M:Option Addr)(L c1:Nat)(cols:List Col)(d:In w M L c1 cols)(Ak:Option Addr)(nk ck:Nat)(A3:Option Addr)(n3 c3:Nat)(rows:List Ent)(K:In w A3 n3 c3 rows)(on:ByteArray)(A2:Option Addr)(n2 c2:Nat)(b:List Col)(X:In w A2 n2 c2 b)(Al:Option Addr)(nl cl:Nat)(Q:Option Addr)(n4 c4:Nat)(B:List Ent)(ao:In w Q n4 c4 B)(A5:Option Addr)(n5 c5:Nat)(zs:List Zone)(Z:In w A5 n5 c5 zs)(ar:n<=4096)(au:n'<=4096)(av:L<=4096)(aw:n2<=4096):
  Calls Tryz.prog 40 #[.agg (fZ x A n c A' n' c' A'' n'' c'').toArray,.agg #[.string rn,.slice M L c1,.slice Ak nk ck,.slice A3 n3 c3],.agg #[.string on,.slice A2 n2 c2,.slice Al nl cl,.slice Q n4 c4],.slice A5 n5 c5] w
   λe w'=>e=.returned (.int .i64 (gP x cols b rows B zs))/\Below w.heap.size w w':=by
 have HV:=Hm λW T V Y d X Z=>zZ W x A n c T A' n' c' V A'' n'' c'' Y M L c1 cols d A2 n2 c2 b X A5 n5 c5 zs Z ar au av aw;have HU:=Hm λW=>uQ W x A n c A' n' c' A'' n'' c'';have af:=Hm λW d K=>Ck W rn M L c1 cols d Ak nk ck A3 n3 c3 rows K;have ag:=Hm λW d K=>Ck W on A2 n2 c2 b d Al nl cl Q n4 c4 B K;have N:=Hm (show gP x cols b rows B zs=if gQ x cols b zs≠0 then gQ x cols b zs else if iL cols rows≠0 then iL cols rows else if kI x.kind=true then iL b B else 0 from rfl);obtain⟨R,hR⟩: ∃R,gP x cols b rows B zs=R:=⟨_,rfl⟩;obtain⟨E1,aa⟩: ∃R,gQ x cols b zs=R:=⟨_,rfl⟩;obtain⟨E2,ab⟩: ∃R,iL cols rows=R:=⟨_,rfl⟩;obtain⟨E3,ac⟩: ∃R,iL b B=R:=⟨_,rfl⟩;obtain⟨U,hU⟩: ∃R,kI x.kind=R:=⟨_,rfl⟩;rw[hR,aa,ab,ac,hU]at N;rw[aa]at HV;rw[ab]at af;rw[ac]at ag;rw[hU]at HU;rw[hR];clear hR aa ab ac hU;simp only[fZ]at HV HU⊢;go_enter Tryz.func40,Tryz.ntmps40;have HN:=Hm T;clear T;have ap:=Hm V;clear V;have HQ:=Hm Y;clear Y;have HC:=Hm d;clear d;have HO:=Hm X;clear X;have HZ:=Hm Z;clear Z;have HR:=Hm K;clear K;have aq:=Hm ao;clear ao;go_wp2_with fail;obtain⟨W3,ai,ax,an,f⟩:=jN w x A n c A' n' c' A'' n'' c'' rn M L c1 Ak nk ck A3 n3 c3 on A2 n2 c2 Al nl cl Q n4 c4;rw[<-ai];clear ai;have a:=Hm an;clear an;obtain⟨⟨i,j,k,r,s,g4,t,u,v,y,z,l,m,p,q⟩,⟨g,C,D,E,F⟩,h,G,H,I,J⟩:=f.o _ (Below.refl _ _);go_wp2_with fail;refine(HV.o _ (HN.o.below a.o) (ap.o.below a.o) (HQ.o.below a.o) (HC.o.below a.o) (HO.o.below a.o) (HZ.o.below a.o)).mono ?_;rintro e ay ⟨rfl,aj⟩;have O:=Hm aj;clear aj;by_cases h1:E1=0;rotate_left
 ·have q1:(E1 != 0)=true:=by simpa using h1
  obtain rfl:R=E1:=by rw[N.o,if_pos h1]
  obtain⟨⟨i,j,k,r,s,g4,t,u,v,y,z,l,m,p,q⟩,⟨g,C,D,E,F⟩,h,G,H,I,J⟩:=f.o _ O.o;go_wp2;all_goals(try(exfalso;go_light;simp_all;done));go_ret;exact⟨rfl,(fH a.o O.o)⟩
 subst h1;obtain⟨⟨i,j,k,r,s,g4,t,u,v,y,z,l,m,p,q⟩,⟨g,C,D,E,F⟩,h,G,H,I,J⟩:=f.o _ O.o;go_wp2_with fail;have ad:=Hm (fH a.o O.o);refine(af.o _ (HC.o.below ad.o) (HR.o.below ad.o)).mono ?_;rintro e az ⟨rfl,ak⟩;have S:=Hm (fH O.o ak);clear ak;by_cases h2:E2=0;rotate_left
 ·have q2:(E2 != 0)=true:=by simpa using h2
  obtain rfl:R=E2:=by rw[N.o];simp[h2]
  obtain⟨⟨i,j,k,r,s,g4,t,u,v,y,z,l,m,p,q⟩,⟨g,C,D,E,F⟩,h,G,H,I,J⟩:=f.o _ S.o;go_wp2;all_goals(try(exfalso;go_light;simp_all;done));go_ret;exact⟨rfl,(fH a.o S.o)⟩
 subst h2;obtain⟨⟨i,j,k,r,s,g4,t,u,v,y,z,l,m,p,q⟩,⟨g,C,D,E,F⟩,h,G,H,I,J⟩:=f.o _ S.o;go_wp2_with fail;refine(HU.o _).mono ?_;rintro e aA ⟨rfl,al⟩;have P:=Hm (fH S.o al);clear al;cases U
 ·obtain rfl:R=0:=by rw[N.o];simp
  obtain⟨⟨i,j,k,r,s,g4,t,u,v,y,z,l,m,p,q⟩,⟨g,C,D,E,F⟩,h,G,H,I,J⟩:=f.o _ P.o;go_wp2;all_goals(try(exfalso;go_light;simp_all;done));go_ret;exact⟨rfl,(fH a.o P.o)⟩
 ·obtain rfl:R=E3:=by rw[N.o];simp
  obtain⟨⟨i,j,k,r,s,g4,t,u,v,y,z,l,m,p,q⟩,⟨g,C,D,E,F⟩,h,G,H,I,J⟩:=f.o _ P.o;go_wp2_with fail;have ae:=Hm (fH a.o P.o);refine(ag.o _ (HO.o.below ae.o) (aq.o.below ae.o)).mono ?_;rintro e aB ⟨rfl,am⟩;have ah:=Hm (fH P.o am);clear am;obtain⟨⟨i,j,k,r,s,g4,t,u,v,y,z,l,m,p,q⟩,⟨g,C,D,E,F⟩,h,G,H,I,J⟩:=f.o _ ah.o;go_wp2;all_goals(try(exfalso;go_light;simp_all;done));go_ret;exact⟨rfl,(fH a.o ah.o)⟩
end Go.Proofs.YtopjjlmfilgngaaGreatDoor
