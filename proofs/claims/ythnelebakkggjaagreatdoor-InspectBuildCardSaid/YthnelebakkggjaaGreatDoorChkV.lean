/-
  check.checkColumns.
-/
import Derived.Test.YthnelebakkggjaaGreatDoorGax
namespace Go.Proofs.YthnelebakkggjaaGreatDoor
set_option maxHeartbeats 4000000
set_option maxRecDepth 100000
open Go.RowKit
set_option linter.unusedSimpArgs false
set_option linter.unusedVariables false
def qo (cols a:List Col)(p:Int×Int):Bool:=(cols.getD p.1.toNat default).kind != (a.getD p.2.toNat default).kind
def ic (sg U:Bool)(b:Int)(is:List Int)(e a c:Int)(f:List Int)(d:Bool):Int:=
 if b≠0 then b else if is.length=0\/(sg=true/\1<is.length) then 8 else if sg=true/\e≠2 then 7 else if U=false then 0
 else if a≠0 then a else if c≠0 then c else if is.length≠f.length then 8 else if d=true then 7 else 0
theorem rP (c:Chk)(cols a:List Col):nA c cols a=
  ic (c.kind==2 || c.kind==6) (jk c.kind) (gK cols c.cols).1 (gK cols c.cols).2 (cols.getD ((gK cols c.cols).2.getD 0 0).toNat default).kind (fq a) (gK a c.ocols).1 (gK a c.ocols).2 ((List.zip (gK cols c.cols).2 (gK a c.ocols).2).any (qo cols a)):=by
 simp only[nA,ic,Bool.or_eq_true,beq_iff_eq];rfl
theorem oJ {cols:List Col}{names:List ByteArray}(h:(gK cols names).1=0): ∀y∈(gK cols names).2,0<=y/\y<(cols.length:Int):=λy a=>by
 obtain⟨b,c,_⟩:=mJ h;rw[b]at a;obtain⟨s,hs,rfl⟩:=List.mem_map.1 a;exact c s hs
theorem jD {α:Type}{xs:List α}{k:Nat}{x d:α}{l:List α}(h:xs.drop k=x::l):xs.getD k d=x:=by
 rw[List.getD_eq_getElem?_getD,(iI h).1];rfl
theorem wI (w:World)(x:Chk)(A:Option Addr)(n c:Nat)(hn:In w A n c x.cols)(A':Option Addr)(n' c':Nat)(aH:In w A' n' c' x.ocols)(A'':Option Addr)(n'' c'':Nat)(A1:Option Addr)(n1 c1:Nat)(cols:List Col)(hc:In w A1 n1 c1 cols)(A2:Option Addr)(n2 c2:Nat)(D:List Col)(ho:In w A2 n2 c2 D)(bA:n<=4096)(G:n'<=4096)(bE:n1<=4096)(am:n2<=4096):
  Calls Tryz.prog 93 #[.agg (eP x A n c A' n' c' A'' n'' c'').toArray,.slice A1 n1 c1,.slice A2 n2 c2] w λe w'=>e=.returned (.int .i64 (nA x cols D))/\Below w.heap.size w w':=by
 have C:=Hm (rP x cols D);have aL:=Hm λW hx hy=>qx W A1 n1 c1 cols hx A n c x.cols hy Ho Ho;have aM:=Hm λW hx hy=>qx W A2 n2 c2 D hx A' n' c' x.ocols hy Ho Ho;have aD:=Hm (λh=>oJ (cols:=cols) (names:=x.cols) h);have aN:=Hm (λh=>oJ (cols:=D) (names:=x.ocols) h);have a8:=Hm (Nat.le_trans (lV cols x.cols) (by rw[hn.len];exact bA));have a9:=Hm (Nat.le_trans (lV D x.ocols) (by rw[aH.len];exact G));have aK:=Hm hc.len;have aY:=Hm ho.len;obtain⟨R,hR⟩: ∃R,nA x cols D=R:=⟨_,rfl⟩;obtain⟨I1,a4⟩: ∃I,gK cols x.cols=I:=⟨_,rfl⟩;obtain⟨I2,a5⟩: ∃I,gK D x.ocols=I:=⟨_,rfl⟩;obtain⟨U,hU⟩: ∃U,jk x.kind=U:=⟨_,rfl⟩;rw[hR,a4,a5,hU]at C;rw[a4]at aL aD a8;rw[a5]at aM aN a9;rw[hR];have HU:=Hm hU;clear hR a4 a5 hU;obtain⟨ie,is⟩:=I1;obtain⟨oe,H⟩:=I2;simp only at C aL aM aD aN a8 a9;obtain⟨K0,a6⟩: ∃K,(cols.getD (is.getD 0 0).toNat default).kind=K:=⟨_,rfl⟩;rw[a6]at C;have a7:=Hm a6;clear a6;obtain⟨V,a3⟩: ∃V,fq D=V:=⟨_,rfl⟩;rw[a3]at C;have aX:=Hm a3;obtain⟨sg,aW⟩: ∃s,(x.kind==2 || x.kind==6)=s:=⟨_,rfl⟩;rw[aW]at C;clear a3;have hk:((x.kind==2)=true/\sg=true)\/((x.kind==2)=false/\(x.kind==6)=true/\sg=true)\/((x.kind==2)=false/\(x.kind==6)=false/\sg=false):=by
  cases h1:(x.kind==2)<;>cases h2:(x.kind==6)<;>simp[h1,h2]at aW<;>simp[aW]
 clear aW;simp only[eP];rcases hk with ⟨h2,rfl⟩|⟨h2,h6,rfl⟩|⟨h2,h6,rfl⟩
 ·go_enter Tryz.func93,Tryz.ntmps93;have a:=Hm hn;clear hn;have E:=Hm aH;clear aH;have f:=Hm hc;clear hc;have d:=Hm ho;clear ho;go_wp2_with fail;obtain⟨W1,ab⟩: ∃W,W=w.alloc (.cells #[.string x.name,.string x.table,.int .i64 x.kind,.slice A n c,.string x.other,.slice A' n' c',.int .i64 x.low,.int .i64 x.high,.slice A'' n'' c'',.int .i64 x.ln,.int .i64 x.ld,.int .i64 x.mn,.int .i64 x.md,.int .i64 x.policy] 27):=⟨_,rfl⟩;obtain⟨L,bh,g,g1,g2,g3,g4,g5,g6,t,u,y,j,l,p,r⟩:=gZ ab rfl;rw[<-ab];clear ab;have a:=Hm (a.o.b L);have E:=Hm (E.o.b L);have f:=Hm (f.o.b L);have d:=Hm (d.o.b L);have bu:=Hm L;clear L;have B:=lt_of_cell g;go_wp2_with fail;refine(aL.o _ (by exact f.o) (by exact a.o)).mono ?_;rintro e w1 ⟨⟨v,rfl,ai⟩,G⟩;obtain⟨A4,c4,rfl⟩:=ai.form;obtain⟨m,hm⟩: ∃m,is.length=m:=⟨_,rfl⟩;have ae:=iy ai rfl;rw[hm]at ae⊢;have F:=Hm hm;clear ai hm;have a:=Hm (a.o.b G);have E:=Hm (E.o.b G);have f:=Hm (f.o.b G);have d:=Hm (d.o.b G);obtain⟨g,g1,g2,g3,g4,g5,g6,t,u,y,j,l,p,r,B⟩:=gB G B g g1 g2 g3 g4 g5 g6 t u y j l p r;have aQ:=Hm (eu bu.o G);clear G;have z:=Hm ae;clear ae;by_cases h0:ie=0;rotate_left
  ·have q0:(ie != 0)=true:=by simpa using h0
   obtain rfl:R=ie:=by rw[C.o,ic,if_pos h0]
   go_wp2;all_goals(try(exfalso;go_light;simp_all;done));go_ret;exact⟨rfl,aQ.o⟩
  subst h0;by_cases ag:m=0
  ·subst ag;obtain rfl:R=8:=by rw[C.o,ic];simp[F.o]
   go_wp2;all_goals(try(exfalso;go_light;simp_all;done));go_ret;exact⟨rfl,aQ.o⟩
  have qz:((m:Int)==0)=false:=by simpa using ag
  have M:=Hm ag;by_cases aR:1<m
  ·have q1:decide (1<(m:Int))=true:=by simp;omega
   obtain rfl:R=8:=by rw[C.o,ic];simp[F.o,aR]
   go_wp2;all_goals(try(exfalso;go_light;simp_all;done));go_ret;exact⟨rfl,aQ.o⟩
  have q1:decide (1<(m:Int))=false:=by simp;omega
  have T:=Hm aR;obtain⟨b0,o0,j0,rfl,bx,aE,e0,_⟩:=z.o.int (k:=0) Ho;rw[Nat.add_zero]at e0;have aI:=aD.o (by first|rfl|trivial) j0 (fE aE.o);rw[aK.o]at aI;obtain⟨i0,rfl⟩: ∃i:Nat,j0=(i:Int):=⟨j0.toNat,Ho⟩;obtain⟨bc,oc,y0,rfl,bz,aO,_,p0,_,_⟩:=f.o.col (k:=i0) Ho;have bB:(0:Int)<=(i0:Int):=by omega
  have bC:(i0:Int)<(n1:Int):=aI.2;have bD:(0:Int)<(m:Int):=by omega
  obtain⟨k5,aG⟩: ∃q,y0.kind=q:=⟨_,rfl⟩;have e5:K0=k5:=by
   rw[<-a7.o,jD aE.o,<-aG];simp only[Int.toNat_natCast];rw[jD aO.o]
  rw[aG]at p0;subst e5;clear aG aI aE aO;by_cases aF:K0=2;rotate_left
  ·have q2:(K0 != 2)=true:=by simpa using aF
   obtain rfl:R=7:=by rw[C.o,ic];simp[F.o,M.o,T.o,aF]
   go_wp2;all_goals(try(exfalso;go_light;simp_all;done));go_ret;exact⟨rfl,aQ.o⟩
  subst aF;have q2:((2:Int) != 2)=false:=by decide
  go_wp2_with fail;refine(uB _ x.kind).mono ?_;rintro e w3 ⟨rfl,am⟩;have a:=Hm (a.o.b am);have E:=Hm (E.o.b am);have f:=Hm (f.o.b am);have d:=Hm (d.o.b am);have z:=Hm (z.o.b am);obtain⟨g,g1,g2,g3,g4,g5,g6,t,u,y,j,l,p,r,B⟩:=gB am B g g1 g2 g3 g4 g5 g6 t u y j l p r;have bf:=Hm (eu aQ.o am);clear am;rw[HU.o];cases U
  ·obtain rfl:R=0:=by rw[C.o,ic];simp[F.o,M.o,T.o]
   go_wp2;all_goals(try(exfalso;go_light;simp_all;done));go_ret;exact⟨rfl,bf.o⟩
  go_wp2_with fail;refine(qX _ A2 n2 c2 D d.o).mono ?_;rintro e w5 ⟨rfl,ax⟩;have a:=Hm (a.o.b ax);have E:=Hm (E.o.b ax);have f:=Hm (f.o.b ax);have d:=Hm (d.o.b ax);have z:=Hm (z.o.b ax);obtain⟨g,g1,g2,g3,g4,g5,g6,t,u,y,j,l,p,r,B⟩:=gB ax B g g1 g2 g3 g4 g5 g6 t u y j l p r;have bg:=Hm (eu bf.o ax);clear ax;rw[aX.o];by_cases ac:V=0
  ·subst ac;go_wp2_with fail;refine(aM.o _ (by exact d.o) (by exact E.o)).mono ?_;rintro e w7 ⟨⟨v2,rfl,aj⟩,J⟩;obtain⟨A5,c5,rfl⟩:=aj.form;obtain⟨m2,af⟩: ∃m,H.length=m:=⟨_,rfl⟩;have ad:=iy aj rfl;rw[af]at ad⊢;have aa:=Hm af;clear aj af;have a:=Hm (a.o.b J);have f:=Hm (f.o.b J);have d:=Hm (d.o.b J);have z:=Hm (z.o.b J);obtain⟨g,g1,g2,g3,g4,g5,g6,t,u,y,j,l,p,r,B⟩:=gB J B g g1 g2 g3 g4 g5 g6 t u y j l p r;have aV:=Hm (eu bg.o J);clear J;have Z:=Hm ad;clear ad;by_cases ah:oe=0
   ·subst ah;by_cases aC:m=m2
    ·subst aC;have an:Hl (R=if (List.zip is H).any (qo cols D)=true then 7 else 0):=Hm (by rw[C.o,ic];simp[F.o,M.o,T.o,aa.o]);obtain⟨W5,rfl⟩: ∃W,W=w7:=⟨_,rfl⟩;have bi:=z.o.le;go_wp2;go_loopw [83] (λi wr=> ∃k:Nat,k<=m/\i=.int .i64 k/\(List.zip is H).any (qo cols D)=((List.zip is H).drop k).any (qo cols D)/\Below W5.heap.size W5 wr) (λi _=>m-(RowKit.intOf i).toNat)
     case atStart=>exact⟨0,Nat.zero_le _,rfl,rfl,IJ⟩
     case round=>
      obtain⟨k,hk,rfl,ay,hb⟩:=hrel;have Y:=Hm ay;clear ay;have a:=Hm (a.o.b hb);have f:=Hm (f.o.b hb);have d:=Hm (d.o.b hb);have z:=Hm (z.o.b hb);have Z:=Hm (Z.o.b hb);obtain⟨g,g1,g2,g3,g4,g5,g6,t,u,y,j,l,p,r,B⟩:=gB hb B g g1 g2 g3 g4 g5 g6 t u y j l p r;have a2:=Hm hb;clear hb;clear g g1 g2 g3 g4 g5 g6 t u y j l p r;by_cases aB:k<m
      ·obtain⟨b,off,j1,S,bj,HX,e0,_⟩:=z.o.int aB
       first|(subst S)|(injection S with S;injection S with hA5 hA6;subst hA5;subst hA6)
       obtain⟨b2,br,j2,rfl,bk,HY,f0,_⟩:=Z.o.int aB;have ak:=aD.o (by first|rfl|trivial) j1 (fE HX.o);have al:=aN.o (by first|rfl|trivial) j2 (fE HY.o);rw[aK.o]at ak;rw[aY.o]at al;obtain⟨N,rfl⟩: ∃i:Nat,j1=(i:Int):=⟨j1.toNat,Ho⟩;obtain⟨O,rfl⟩: ∃i:Nat,j2=(i:Int):=⟨j2.toNat,Ho⟩;obtain⟨b3,bs,y1,Q,bl,ao,_,p1,_,_⟩:=f.o.col (k:=N) Ho
       first|(subst Q)|(injection Q with Q;injection Q with hA7 hA8;subst hA7;subst hA8)
       obtain⟨b4,bt,y2,rfl,bm,ap,_,q1,_,_⟩:=d.o.col (k:=O) Ho;have aq:Hl ((List.zip is H).drop k=((N:Int),(O:Int))::(List.zip is H).drop (k+1)):=Hm (by
        rw[List.zip,List.drop_zipWith,HX.o,HY.o,List.zipWith_cons_cons,List.drop_zipWith])
       have P:Hl (qo cols D ((N:Int),(O:Int))=(y1.kind != y2.kind)):=Hm (by
        rw[qo];simp only[Int.toNat_natCast];rw[jD ao.o,jD ap.o])
       have k0:(0:Int)<=(k:Int):=by omega
       have k1:(k:Int)<(m:Int):=by omega
       have bn:(0:Int)<=(N:Int):=by omega
       have bo:(N:Int)<(n1:Int):=ak.2;have bp:(0:Int)<=(O:Int):=by omega
       have bq:(O:Int)<(n2:Int):=al.2;have aJ:=Hm a2.o;have X:=Hm (eu aV.o a2.o);clear ak al ao ap HX HY;obtain⟨k3,az⟩: ∃q,y1.kind=q:=⟨_,rfl⟩;obtain⟨k4,aA⟩: ∃q,y2.kind=q:=⟨_,rfl⟩;rw[az]at p1 P;rw[aA]at q1 P;clear az aA;go_wp2;go_quiet (fail);by_cases hq:k3=k4
       ·subst hq;have a:Hl ((List.zip is H).any (qo cols D)=((List.zip is H).drop (k+1)).any (qo cols D)):=Hm (by rw[Y.o,aq.o,List.any_cons,P.o];simp);go_wp2;all_goals(try(exfalso;go_light;simp_all;done));go_roundw
        case rel=>exact⟨k+1,Ho,by go_num,a.o,below_drewN aJ.o _⟩
        case measure=>simp[RowKit.intOf];omega
       ·have aS:(k3 != k4)=true:=by simpa using hq
        obtain rfl:R=7:=by rw[an.o,Y.o,aq.o,List.any_cons,P.o,aS];simp
        go_wp2;all_goals(try(exfalso;go_light;simp_all;done));go_ret;exact⟨rfl,below_drewN X.o _⟩
      ·obtain rfl:R=0:=by rw[an.o,Y.o,List.drop_eq_nil_of_le (by rw[List.length_zip,F.o,aa.o];omega)];rfl
       have X:=Hm (eu aV.o a2.o);go_wp2;all_goals(try(exfalso;go_light;simp_all;done));go_ret;exact⟨rfl,X.o⟩
    ·have q5:((m:Int) != (m2:Int))=true:=by simp;omega
     obtain rfl:R=8:=by rw[C.o,ic];simp[F.o,M.o,T.o,aa.o,aC]
     go_wp2;all_goals(try(exfalso;go_light;simp_all;done));go_ret;exact⟨rfl,aV.o⟩
   ·have q4:(oe != 0)=true:=by simpa using ah
    obtain rfl:R=oe:=by rw[C.o,ic];simp[F.o,M.o,T.o,ah]
    go_wp2;all_goals(try(exfalso;go_light;simp_all;done));go_ret;exact⟨rfl,aV.o⟩
  ·have q3:(V != 0)=true:=by simpa using ac
   obtain rfl:R=V:=by rw[C.o,ic];simp[F.o,M.o,T.o,ac]
   go_wp2;all_goals(try(exfalso;go_light;simp_all;done));go_ret;exact⟨rfl,bg.o⟩
 ·go_enter Tryz.func93,Tryz.ntmps93;have a:=Hm hn;clear hn;have E:=Hm aH;clear aH;have f:=Hm hc;clear hc;have d:=Hm ho;clear ho;go_wp2_with fail;obtain⟨W1,ab⟩: ∃W,W=w.alloc (.cells #[.string x.name,.string x.table,.int .i64 x.kind,.slice A n c,.string x.other,.slice A' n' c',.int .i64 x.low,.int .i64 x.high,.slice A'' n'' c'',.int .i64 x.ln,.int .i64 x.ld,.int .i64 x.mn,.int .i64 x.md,.int .i64 x.policy] 27):=⟨_,rfl⟩;obtain⟨L,bh,g,g1,g2,g3,g4,g5,g6,t,u,y,j,l,p,r⟩:=gZ ab rfl;rw[<-ab];clear ab;have a:=Hm (a.o.b L);have E:=Hm (E.o.b L);have f:=Hm (f.o.b L);have d:=Hm (d.o.b L);have bw:=Hm L;clear L;have B:=lt_of_cell g;go_wp2_with fail;refine(aL.o _ (by exact f.o) (by exact a.o)).mono ?_;rintro e w1 ⟨⟨v,rfl,ai⟩,G⟩;obtain⟨A4,c4,rfl⟩:=ai.form;obtain⟨m,hm⟩: ∃m,is.length=m:=⟨_,rfl⟩;have ae:=iy ai rfl;rw[hm]at ae⊢;have F:=Hm hm;clear ai hm;have a:=Hm (a.o.b G);have E:=Hm (E.o.b G);have f:=Hm (f.o.b G);have d:=Hm (d.o.b G);obtain⟨g,g1,g2,g3,g4,g5,g6,t,u,y,j,l,p,r,B⟩:=gB G B g g1 g2 g3 g4 g5 g6 t u y j l p r;have aP:=Hm (eu bw.o G);clear G;have z:=Hm ae;clear ae;by_cases h0:ie=0;rotate_left
  ·have q0:(ie != 0)=true:=by simpa using h0
   obtain rfl:R=ie:=by rw[C.o,ic,if_pos h0]
   go_wp2;all_goals(try(exfalso;go_light;simp_all;done));go_ret;exact⟨rfl,aP.o⟩
  subst h0;by_cases ag:m=0
  ·subst ag;obtain rfl:R=8:=by rw[C.o,ic];simp[F.o]
   go_wp2;all_goals(try(exfalso;go_light;simp_all;done));go_ret;exact⟨rfl,aP.o⟩
  have qz:((m:Int)==0)=false:=by simpa using ag
  have M:=Hm ag;by_cases aR:1<m
  ·have q1:decide (1<(m:Int))=true:=by simp;omega
   obtain rfl:R=8:=by rw[C.o,ic];simp[F.o,aR]
   go_wp2;all_goals(try(exfalso;go_light;simp_all;done));go_ret;exact⟨rfl,aP.o⟩
  have q1:decide (1<(m:Int))=false:=by simp;omega
  have T:=Hm aR;obtain⟨b0,o0,j0,rfl,bx,aE,e0,_⟩:=z.o.int (k:=0) Ho;rw[Nat.add_zero]at e0;have aI:=aD.o (by first|rfl|trivial) j0 (fE aE.o);rw[aK.o]at aI;obtain⟨i0,rfl⟩: ∃i:Nat,j0=(i:Int):=⟨j0.toNat,Ho⟩;obtain⟨bc,oc,y0,rfl,bz,aO,_,p0,_,_⟩:=f.o.col (k:=i0) Ho;have bB:(0:Int)<=(i0:Int):=by omega
  have bC:(i0:Int)<(n1:Int):=aI.2;have bD:(0:Int)<(m:Int):=by omega
  obtain⟨k5,aG⟩: ∃q,y0.kind=q:=⟨_,rfl⟩;have e5:K0=k5:=by
   rw[<-a7.o,jD aE.o,<-aG];simp only[Int.toNat_natCast];rw[jD aO.o]
  rw[aG]at p0;subst e5;clear aG aI aE aO;by_cases aF:K0=2;rotate_left
  ·have q2:(K0 != 2)=true:=by simpa using aF
   obtain rfl:R=7:=by rw[C.o,ic];simp[F.o,M.o,T.o,aF]
   go_wp2;all_goals(try(exfalso;go_light;simp_all;done));go_ret;exact⟨rfl,aP.o⟩
  subst aF;have q2:((2:Int) != 2)=false:=by decide
  go_wp2_with fail;refine(uB _ x.kind).mono ?_;rintro e bF ⟨rfl,ar⟩;have a:=Hm (a.o.b ar);have E:=Hm (E.o.b ar);have f:=Hm (f.o.b ar);have d:=Hm (d.o.b ar);have z:=Hm (z.o.b ar);obtain⟨g,g1,g2,g3,g4,g5,g6,t,u,y,j,l,p,r,B⟩:=gB ar B g g1 g2 g3 g4 g5 g6 t u y j l p r;have ba:=Hm (eu aP.o ar);clear ar;rw[HU.o];cases U
  ·obtain rfl:R=0:=by rw[C.o,ic];simp[F.o,M.o,T.o]
   go_wp2;all_goals(try(exfalso;go_light;simp_all;done));go_ret;exact⟨rfl,ba.o⟩
  go_wp2_with fail;refine(qX _ A2 n2 c2 D d.o).mono ?_;rintro e bG ⟨rfl,au⟩;have a:=Hm (a.o.b au);have E:=Hm (E.o.b au);have f:=Hm (f.o.b au);have d:=Hm (d.o.b au);have z:=Hm (z.o.b au);obtain⟨g,g1,g2,g3,g4,g5,g6,t,u,y,j,l,p,r,B⟩:=gB au B g g1 g2 g3 g4 g5 g6 t u y j l p r;have bb:=Hm (eu ba.o au);clear au;rw[aX.o];by_cases ac:V=0
  ·subst ac;go_wp2_with fail;refine(aM.o _ (by exact d.o) (by exact E.o)).mono ?_;rintro e w7 ⟨⟨v2,rfl,aj⟩,J⟩;obtain⟨A5,c5,rfl⟩:=aj.form;obtain⟨m2,af⟩: ∃m,H.length=m:=⟨_,rfl⟩;have ad:=iy aj rfl;rw[af]at ad⊢;have aa:=Hm af;clear aj af;have a:=Hm (a.o.b J);have f:=Hm (f.o.b J);have d:=Hm (d.o.b J);have z:=Hm (z.o.b J);obtain⟨g,g1,g2,g3,g4,g5,g6,t,u,y,j,l,p,r,B⟩:=gB J B g g1 g2 g3 g4 g5 g6 t u y j l p r;have aT:=Hm (eu bb.o J);clear J;have Z:=Hm ad;clear ad;by_cases ah:oe=0
   ·subst ah;by_cases aC:m=m2
    ·subst aC;have an:Hl (R=if (List.zip is H).any (qo cols D)=true then 7 else 0):=Hm (by rw[C.o,ic];simp[F.o,M.o,T.o,aa.o]);obtain⟨W5,rfl⟩: ∃W,W=w7:=⟨_,rfl⟩;have bi:=z.o.le;go_wp2;go_loopw [83] (λi wr=> ∃k:Nat,k<=m/\i=.int .i64 k/\(List.zip is H).any (qo cols D)=((List.zip is H).drop k).any (qo cols D)/\Below W5.heap.size W5 wr) (λi _=>m-(RowKit.intOf i).toNat)
     case atStart=>exact⟨0,Nat.zero_le _,rfl,rfl,IJ⟩
     case round=>
      obtain⟨k,hk,rfl,ay,hb⟩:=hrel;have Y:=Hm ay;clear ay;have a:=Hm (a.o.b hb);have f:=Hm (f.o.b hb);have d:=Hm (d.o.b hb);have z:=Hm (z.o.b hb);have Z:=Hm (Z.o.b hb);obtain⟨g,g1,g2,g3,g4,g5,g6,t,u,y,j,l,p,r,B⟩:=gB hb B g g1 g2 g3 g4 g5 g6 t u y j l p r;have aZ:=Hm hb;clear hb;clear g g1 g2 g3 g4 g5 g6 t u y j l p r;by_cases aB:k<m
      ·obtain⟨b,off,j1,S,bj,HX,e0,_⟩:=z.o.int aB
       first|(subst S)|(injection S with S;injection S with hA5 hA6;subst hA5;subst hA6)
       obtain⟨b2,br,j2,rfl,bk,HY,f0,_⟩:=Z.o.int aB;have ak:=aD.o (by first|rfl|trivial) j1 (fE HX.o);have al:=aN.o (by first|rfl|trivial) j2 (fE HY.o);rw[aK.o]at ak;rw[aY.o]at al;obtain⟨N,rfl⟩: ∃i:Nat,j1=(i:Int):=⟨j1.toNat,Ho⟩;obtain⟨O,rfl⟩: ∃i:Nat,j2=(i:Int):=⟨j2.toNat,Ho⟩;obtain⟨b3,bs,y1,Q,bl,ao,_,p1,_,_⟩:=f.o.col (k:=N) Ho
       first|(subst Q)|(injection Q with Q;injection Q with hA7 hA8;subst hA7;subst hA8)
       obtain⟨b4,bt,y2,rfl,bm,ap,_,q1,_,_⟩:=d.o.col (k:=O) Ho;have aq:Hl ((List.zip is H).drop k=((N:Int),(O:Int))::(List.zip is H).drop (k+1)):=Hm (by
        rw[List.zip,List.drop_zipWith,HX.o,HY.o,List.zipWith_cons_cons,List.drop_zipWith])
       have P:Hl (qo cols D ((N:Int),(O:Int))=(y1.kind != y2.kind)):=Hm (by
        rw[qo];simp only[Int.toNat_natCast];rw[jD ao.o,jD ap.o])
       have k0:(0:Int)<=(k:Int):=by omega
       have k1:(k:Int)<(m:Int):=by omega
       have bn:(0:Int)<=(N:Int):=by omega
       have bo:(N:Int)<(n1:Int):=ak.2;have bp:(0:Int)<=(O:Int):=by omega
       have bq:(O:Int)<(n2:Int):=al.2;have aJ:=Hm aZ.o;have X:=Hm (eu aT.o aZ.o);clear ak al ao ap HX HY;obtain⟨k3,az⟩: ∃q,y1.kind=q:=⟨_,rfl⟩;obtain⟨k4,aA⟩: ∃q,y2.kind=q:=⟨_,rfl⟩;rw[az]at p1 P;rw[aA]at q1 P;clear az aA;go_wp2;go_quiet (fail);by_cases hq:k3=k4
       ·subst hq;have a:Hl ((List.zip is H).any (qo cols D)=((List.zip is H).drop (k+1)).any (qo cols D)):=Hm (by rw[Y.o,aq.o,List.any_cons,P.o];simp);go_wp2;all_goals(try(exfalso;go_light;simp_all;done));go_roundw
        case rel=>exact⟨k+1,Ho,by go_num,a.o,below_drewN aJ.o _⟩
        case measure=>simp[RowKit.intOf];omega
       ·have aS:(k3 != k4)=true:=by simpa using hq
        obtain rfl:R=7:=by rw[an.o,Y.o,aq.o,List.any_cons,P.o,aS];simp
        go_wp2;all_goals(try(exfalso;go_light;simp_all;done));go_ret;exact⟨rfl,below_drewN X.o _⟩
      ·obtain rfl:R=0:=by rw[an.o,Y.o,List.drop_eq_nil_of_le (by rw[List.length_zip,F.o,aa.o];omega)];rfl
       have X:=Hm (eu aT.o aZ.o);go_wp2;all_goals(try(exfalso;go_light;simp_all;done));go_ret;exact⟨rfl,X.o⟩
    ·have q5:((m:Int) != (m2:Int))=true:=by simp;omega
     obtain rfl:R=8:=by rw[C.o,ic];simp[F.o,M.o,T.o,aa.o,aC]
     go_wp2;all_goals(try(exfalso;go_light;simp_all;done));go_ret;exact⟨rfl,aT.o⟩
   ·have q4:(oe != 0)=true:=by simpa using ah
    obtain rfl:R=oe:=by rw[C.o,ic];simp[F.o,M.o,T.o,ah]
    go_wp2;all_goals(try(exfalso;go_light;simp_all;done));go_ret;exact⟨rfl,aT.o⟩
  ·have q3:(V != 0)=true:=by simpa using ac
   obtain rfl:R=V:=by rw[C.o,ic];simp[F.o,M.o,T.o,ac]
   go_wp2;all_goals(try(exfalso;go_light;simp_all;done));go_ret;exact⟨rfl,bb.o⟩
 ·go_enter Tryz.func93,Tryz.ntmps93;have a:=Hm hn;clear hn;have E:=Hm aH;clear aH;have f:=Hm hc;clear hc;have d:=Hm ho;clear ho;go_wp2_with fail;obtain⟨W1,ab⟩: ∃W,W=w.alloc (.cells #[.string x.name,.string x.table,.int .i64 x.kind,.slice A n c,.string x.other,.slice A' n' c',.int .i64 x.low,.int .i64 x.high,.slice A'' n'' c'',.int .i64 x.ln,.int .i64 x.ld,.int .i64 x.mn,.int .i64 x.md,.int .i64 x.policy] 27):=⟨_,rfl⟩;obtain⟨L,bh,g,g1,g2,g3,g4,g5,g6,t,u,y,j,l,p,r⟩:=gZ ab rfl;rw[<-ab];clear ab;have a:=Hm (a.o.b L);have E:=Hm (E.o.b L);have f:=Hm (f.o.b L);have d:=Hm (d.o.b L);have bv:=Hm L;clear L;have B:=lt_of_cell g;go_wp2_with fail;refine(aL.o _ (by exact f.o) (by exact a.o)).mono ?_;rintro e w1 ⟨⟨v,rfl,ai⟩,G⟩;obtain⟨A4,c4,rfl⟩:=ai.form;obtain⟨m,hm⟩: ∃m,is.length=m:=⟨_,rfl⟩;have ae:=iy ai rfl;rw[hm]at ae⊢;have F:=Hm hm;clear ai hm;have a:=Hm (a.o.b G);have E:=Hm (E.o.b G);have f:=Hm (f.o.b G);have d:=Hm (d.o.b G);obtain⟨g,g1,g2,g3,g4,g5,g6,t,u,y,j,l,p,r,B⟩:=gB G B g g1 g2 g3 g4 g5 g6 t u y j l p r;have a0:=Hm (eu bv.o G);clear G;have z:=Hm ae;clear ae;by_cases h0:ie=0;rotate_left
  ·have q0:(ie != 0)=true:=by simpa using h0
   obtain rfl:R=ie:=by rw[C.o,ic,if_pos h0]
   go_wp2;all_goals(try(exfalso;go_light;simp_all;done));go_ret;exact⟨rfl,a0.o⟩
  subst h0;by_cases ag:m=0
  ·subst ag;obtain rfl:R=8:=by rw[C.o,ic];simp[F.o]
   go_wp2;all_goals(try(exfalso;go_light;simp_all;done));go_ret;exact⟨rfl,a0.o⟩
  have qz:((m:Int)==0)=false:=by simpa using ag
  have M:=Hm ag;go_wp2_with fail;refine(uB _ x.kind).mono ?_;rintro e bH ⟨rfl,av⟩;have a:=Hm (a.o.b av);have E:=Hm (E.o.b av);have f:=Hm (f.o.b av);have d:=Hm (d.o.b av);have z:=Hm (z.o.b av);obtain⟨g,g1,g2,g3,g4,g5,g6,t,u,y,j,l,p,r,B⟩:=gB av B g g1 g2 g3 g4 g5 g6 t u y j l p r;have bd:=Hm (eu a0.o av);clear av;rw[HU.o];cases U
  ·obtain rfl:R=0:=by rw[C.o,ic];simp[F.o,M.o]
   go_wp2;all_goals(try(exfalso;go_light;simp_all;done));go_ret;exact⟨rfl,bd.o⟩
  go_wp2_with fail;refine(qX _ A2 n2 c2 D d.o).mono ?_;rintro e bI ⟨rfl,aw⟩;have a:=Hm (a.o.b aw);have E:=Hm (E.o.b aw);have f:=Hm (f.o.b aw);have d:=Hm (d.o.b aw);have z:=Hm (z.o.b aw);obtain⟨g,g1,g2,g3,g4,g5,g6,t,u,y,j,l,p,r,B⟩:=gB aw B g g1 g2 g3 g4 g5 g6 t u y j l p r;have be:=Hm (eu bd.o aw);clear aw;rw[aX.o];by_cases ac:V=0
  ·subst ac;go_wp2_with fail;refine(aM.o _ (by exact d.o) (by exact E.o)).mono ?_;rintro e w7 ⟨⟨v2,rfl,aj⟩,J⟩;obtain⟨A5,c5,rfl⟩:=aj.form;obtain⟨m2,af⟩: ∃m,H.length=m:=⟨_,rfl⟩;have ad:=iy aj rfl;rw[af]at ad⊢;have aa:=Hm af;clear aj af;have a:=Hm (a.o.b J);have f:=Hm (f.o.b J);have d:=Hm (d.o.b J);have z:=Hm (z.o.b J);obtain⟨g,g1,g2,g3,g4,g5,g6,t,u,y,j,l,p,r,B⟩:=gB J B g g1 g2 g3 g4 g5 g6 t u y j l p r;have aU:=Hm (eu be.o J);clear J;have Z:=Hm ad;clear ad;by_cases ah:oe=0
   ·subst ah;by_cases aC:m=m2
    ·subst aC;have an:Hl (R=if (List.zip is H).any (qo cols D)=true then 7 else 0):=Hm (by rw[C.o,ic];simp[F.o,M.o,aa.o]);obtain⟨W5,rfl⟩: ∃W,W=w7:=⟨_,rfl⟩;have bi:=z.o.le;go_wp2;go_loopw [83] (λi wr=> ∃k:Nat,k<=m/\i=.int .i64 k/\(List.zip is H).any (qo cols D)=((List.zip is H).drop k).any (qo cols D)/\Below W5.heap.size W5 wr) (λi _=>m-(RowKit.intOf i).toNat)
     case atStart=>exact⟨0,Nat.zero_le _,rfl,rfl,IJ⟩
     case round=>
      obtain⟨k,hk,rfl,ay,hb⟩:=hrel;have Y:=Hm ay;clear ay;have a:=Hm (a.o.b hb);have f:=Hm (f.o.b hb);have d:=Hm (d.o.b hb);have z:=Hm (z.o.b hb);have Z:=Hm (Z.o.b hb);obtain⟨g,g1,g2,g3,g4,g5,g6,t,u,y,j,l,p,r,B⟩:=gB hb B g g1 g2 g3 g4 g5 g6 t u y j l p r;have a1:=Hm hb;clear hb;clear g g1 g2 g3 g4 g5 g6 t u y j l p r;by_cases aB:k<m
      ·obtain⟨b,off,j1,S,bj,HX,e0,_⟩:=z.o.int aB
       first|(subst S)|(injection S with S;injection S with hA5 hA6;subst hA5;subst hA6)
       obtain⟨b2,br,j2,rfl,bk,HY,f0,_⟩:=Z.o.int aB;have ak:=aD.o (by first|rfl|trivial) j1 (fE HX.o);have al:=aN.o (by first|rfl|trivial) j2 (fE HY.o);rw[aK.o]at ak;rw[aY.o]at al;obtain⟨N,rfl⟩: ∃i:Nat,j1=(i:Int):=⟨j1.toNat,Ho⟩;obtain⟨O,rfl⟩: ∃i:Nat,j2=(i:Int):=⟨j2.toNat,Ho⟩;obtain⟨b3,bs,y1,Q,bl,ao,_,p1,_,_⟩:=f.o.col (k:=N) Ho
       first|(subst Q)|(injection Q with Q;injection Q with hA7 hA8;subst hA7;subst hA8)
       obtain⟨b4,bt,y2,rfl,bm,ap,_,q1,_,_⟩:=d.o.col (k:=O) Ho;have aq:Hl ((List.zip is H).drop k=((N:Int),(O:Int))::(List.zip is H).drop (k+1)):=Hm (by
        rw[List.zip,List.drop_zipWith,HX.o,HY.o,List.zipWith_cons_cons,List.drop_zipWith])
       have P:Hl (qo cols D ((N:Int),(O:Int))=(y1.kind != y2.kind)):=Hm (by
        rw[qo];simp only[Int.toNat_natCast];rw[jD ao.o,jD ap.o])
       have k0:(0:Int)<=(k:Int):=by omega
       have k1:(k:Int)<(m:Int):=by omega
       have bn:(0:Int)<=(N:Int):=by omega
       have bo:(N:Int)<(n1:Int):=ak.2;have bp:(0:Int)<=(O:Int):=by omega
       have bq:(O:Int)<(n2:Int):=al.2;have aJ:=Hm a1.o;have X:=Hm (eu aU.o a1.o);clear ak al ao ap HX HY;obtain⟨k3,az⟩: ∃q,y1.kind=q:=⟨_,rfl⟩;obtain⟨k4,aA⟩: ∃q,y2.kind=q:=⟨_,rfl⟩;rw[az]at p1 P;rw[aA]at q1 P;clear az aA;go_wp2;go_quiet (fail);by_cases hq:k3=k4
       ·subst hq;have a:Hl ((List.zip is H).any (qo cols D)=((List.zip is H).drop (k+1)).any (qo cols D)):=Hm (by rw[Y.o,aq.o,List.any_cons,P.o];simp);go_wp2;all_goals(try(exfalso;go_light;simp_all;done));go_roundw
        case rel=>exact⟨k+1,Ho,by go_num,a.o,below_drewN aJ.o _⟩
        case measure=>simp[RowKit.intOf];omega
       ·have aS:(k3 != k4)=true:=by simpa using hq
        obtain rfl:R=7:=by rw[an.o,Y.o,aq.o,List.any_cons,P.o,aS];simp
        go_wp2;all_goals(try(exfalso;go_light;simp_all;done));go_ret;exact⟨rfl,below_drewN X.o _⟩
      ·obtain rfl:R=0:=by rw[an.o,Y.o,List.drop_eq_nil_of_le (by rw[List.length_zip,F.o,aa.o];omega)];rfl
       have X:=Hm (eu aU.o a1.o);go_wp2;all_goals(try(exfalso;go_light;simp_all;done));go_ret;exact⟨rfl,X.o⟩
    ·have q5:((m:Int) != (m2:Int))=true:=by simp;omega
     obtain rfl:R=8:=by rw[C.o,ic];simp[F.o,M.o,aa.o,aC]
     go_wp2;all_goals(try(exfalso;go_light;simp_all;done));go_ret;exact⟨rfl,aU.o⟩
   ·have q4:(oe != 0)=true:=by simpa using ah
    obtain rfl:R=oe:=by rw[C.o,ic];simp[F.o,M.o,ah]
    go_wp2;all_goals(try(exfalso;go_light;simp_all;done));go_ret;exact⟨rfl,aU.o⟩
  ·have q3:(V != 0)=true:=by simpa using ac
   obtain rfl:R=V:=by rw[C.o,ic];simp[F.o,M.o,ac]
   go_wp2;all_goals(try(exfalso;go_light;simp_all;done));go_ret;exact⟨rfl,be.o⟩
end Go.Proofs.YthnelebakkggjaaGreatDoor
