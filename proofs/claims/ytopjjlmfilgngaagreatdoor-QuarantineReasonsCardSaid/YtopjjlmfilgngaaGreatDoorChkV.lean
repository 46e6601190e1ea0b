/-
  check.checkColumns.
-/
import Derived.Test.YtopjjlmfilgngaaGreatDoorGaw
namespace Go.Proofs.YtopjjlmfilgngaaGreatDoor
set_option maxHeartbeats 4000000
set_option maxRecDepth 100000
open Go.RowKit
set_option linter.unusedSimpArgs false
set_option linter.unusedVariables false
def qj (cols a:List Col)(p:Int×Int):Bool:=(cols.getD p.1.toNat default).kind != (a.getD p.2.toNat default).kind
def iQ (sg U:Bool)(b:Int)(is:List Int)(e a c:Int)(f:List Int)(d:Bool):Int:=
 if b≠0 then b else if is.length=0\/(sg=true/\1<is.length) then 8 else if sg=true/\e≠2 then 7 else if U=false then 0
 else if a≠0 then a else if c≠0 then c else if is.length≠f.length then 8 else if d=true then 7 else 0
theorem r9 (c:Chk)(cols a:List Col):mR c cols a=
  iQ (c.kind==2 || c.kind==6) (kI c.kind) (il cols c.cols).1 (il cols c.cols).2 (cols.getD ((il cols c.cols).2.getD 0 0).toNat default).kind (gu a) (il a c.ocols).1 (il a c.ocols).2 ((List.zip (il cols c.cols).2 (il a c.ocols).2).any (qj cols a)):=by
 simp only[mR,iQ,Bool.or_eq_true,beq_iff_eq];rfl
theorem oP {cols:List Col}{names:List ByteArray}(h:(il cols names).1=0): ∀y∈(il cols names).2,0<=y/\y<(cols.length:Int):=λy a=>by
 obtain⟨b,c,_⟩:=mM h;rw[b]at a;obtain⟨s,hs,rfl⟩:=List.mem_map.1 a;exact c s hs
theorem jS {α:Type}{xs:List α}{k:Nat}{x d:α}{l:List α}(h:xs.drop k=x::l):xs.getD k d=x:=by
 rw[List.getD_eq_getElem?_getD,(iR h).1];rfl
theorem wZ (w:World)(x:Chk)(A:Option Addr)(n c:Nat)(hn:In w A n c x.cols)(A':Option Addr)(n' c':Nat)(aK:In w A' n' c' x.ocols)(A'':Option Addr)(n'' c'':Nat)(A1:Option Addr)(n1 c1:Nat)(cols:List Col)(hc:In w A1 n1 c1 cols)(A2:Option Addr)(n2 c2:Nat)(J:List Col)(ho:In w A2 n2 c2 J)(bD:n<=4096)(N:n'<=4096)(bH:n1<=4096)(ap:n2<=4096):
  Calls Tryz.prog 145 #[.agg (fZ x A n c A' n' c' A'' n'' c'').toArray,.slice A1 n1 c1,.slice A2 n2 c2] w λe w'=>e=.returned (.int .i64 (mR x cols J))/\Below w.heap.size w w':=by
 have H:=Hm (r9 x cols J);have aO:=Hm λW hx hy=>tX W A1 n1 c1 cols hx A n c x.cols hy (by omega) (by omega);have aP:=Hm λW hx hy=>tX W A2 n2 c2 J hx A' n' c' x.ocols hy (by omega) (by omega);have aG:=Hm (λh=>oP (cols:=cols) (names:=x.cols) h);have aQ:=Hm (λh=>oP (cols:=J) (names:=x.ocols) h);have bb:=Hm (Nat.le_trans (mO cols x.cols) (by rw[hn.len];exact bD));have bd:=Hm (Nat.le_trans (mO J x.ocols) (by rw[aK.len];exact N));have aN:=Hm hc.len;have a1:=Hm ho.len;obtain⟨R,hR⟩: ∃R,mR x cols J=R:=⟨_,rfl⟩;obtain⟨I1,a7⟩: ∃I,il cols x.cols=I:=⟨_,rfl⟩;obtain⟨I2,a8⟩: ∃I,il J x.ocols=I:=⟨_,rfl⟩;obtain⟨U,hU⟩: ∃U,kI x.kind=U:=⟨_,rfl⟩;rw[hR,a7,a8,hU]at H;rw[a7]at aO aG bb;rw[a8]at aP aQ bd;rw[hR];have HU:=Hm hU;clear hR a7 a8 hU;obtain⟨ie,is⟩:=I1;obtain⟨oe,O⟩:=I2;simp only at H aO aP aG aQ bb bd;obtain⟨K0,a9⟩: ∃K,(cols.getD (is.getD 0 0).toNat default).kind=K:=⟨_,rfl⟩;rw[a9]at H;have ba:=Hm a9;clear a9;obtain⟨CE,a6⟩: ∃CE,gu J=CE:=⟨_,rfl⟩;rw[a6]at H;have a0:=Hm a6;obtain⟨sg,aZ⟩: ∃s,(x.kind==2 || x.kind==6)=s:=⟨_,rfl⟩;rw[aZ]at H;clear a6;have hk:((x.kind==2)=true/\sg=true)\/((x.kind==2)=false/\(x.kind==6)=true/\sg=true)\/((x.kind==2)=false/\(x.kind==6)=false/\sg=false):=by
  cases h1:(x.kind==2)<;>cases h2:(x.kind==6)<;>simp[h1,h2]at aZ<;>simp[aZ]
 clear aZ;simp only[fZ];rcases hk with ⟨h2,rfl⟩|⟨h2,h6,rfl⟩|⟨h2,h6,rfl⟩
 ·go_enter Tryz.func145,Tryz.ntmps145;have a:=Hm hn;clear hn;have L:=Hm aK;clear aK;have f:=Hm hc;clear hc;have d:=Hm ho;clear ho;go_wp2_with fail;obtain⟨W1,ae⟩: ∃W,W=w.alloc (.cells #[.string x.name,.string x.table,.int .i64 x.kind,.slice A n c,.string x.other,.slice A' n' c',.int .i64 x.low,.int .i64 x.high,.slice A'' n'' c'',.int .i64 x.ln,.int .i64 x.ld,.int .i64 x.mn,.int .i64 x.md,.int .i64 x.policy] 48):=⟨_,rfl⟩;obtain⟨Q,bk,g,j,u,y,g4,z,B,C,D,E,l,p,r,t⟩:=iE ae rfl;rw[<-ae];clear ae;have a:=Hm (a.o.below Q);have L:=Hm (L.o.below Q);have f:=Hm (f.o.below Q);have d:=Hm (d.o.below Q);have bx:=Hm Q;clear Q;have G:=lt_of_cell g;go_wp2_with fail;refine(aO.o _ (by exact f.o) (by exact a.o)).mono ?_;rintro e w1 ⟨⟨v,rfl,al⟩,N⟩;obtain⟨A4,c4,rfl⟩:=al.form;obtain⟨m,hm⟩: ∃m,is.length=m:=⟨_,rfl⟩;have ah:=jB al rfl;rw[hm]at ah⊢;have M:=Hm hm;clear al hm;have a:=Hm (a.o.below N);have L:=Hm (L.o.below N);have f:=Hm (f.o.below N);have d:=Hm (d.o.below N);obtain⟨g,j,u,y,g4,z,B,C,D,E,l,p,r,t,G⟩:=jE N G g j u y g4 z B C D E l p r t;have aT:=Hm (fH bx.o N);clear N;have F:=Hm ah;clear ah;by_cases h0:ie=0;rotate_left
  ·have q0:(ie != 0)=true:=by simpa using h0
   obtain rfl:R=ie:=by rw[H.o,iQ,if_pos h0]
   go_wp2;all_goals(try(exfalso;go_light;simp_all;done));go_ret;exact⟨rfl,aT.o⟩
  subst h0;by_cases aj:m=0
  ·subst aj;obtain rfl:R=8:=by rw[H.o,iQ];simp[M.o]
   go_wp2;all_goals(try(exfalso;go_light;simp_all;done));go_ret;exact⟨rfl,aT.o⟩
  have qz:((m:Int)==0)=false:=by simpa using aj
  have S:=Hm aj;by_cases aU:1<m
  ·have q1:decide (1<(m:Int))=true:=by simp;omega
   obtain rfl:R=8:=by rw[H.o,iQ];simp[M.o,aU]
   go_wp2;all_goals(try(exfalso;go_light;simp_all;done));go_ret;exact⟨rfl,aT.o⟩
  have q1:decide (1<(m:Int))=false:=by simp;omega
  have aa:=Hm aU;obtain⟨b0,o0,j0,rfl,bB,aH,e0,_⟩:=F.o.int (k:=0) (by omega);rw[Nat.add_zero]at e0;have aL:=aG.o (by first|rfl|trivial) j0 (gH aH.o);rw[aN.o]at aL;obtain⟨i0,rfl⟩: ∃i:Nat,j0=(i:Int):=⟨j0.toNat,by omega⟩;obtain⟨bc,oc,y0,rfl,bC,aR,_,p0,_,_⟩:=f.o.col (k:=i0) (by omega);have bE:(0:Int)<=(i0:Int):=by omega
  have bF:(i0:Int)<(n1:Int):=aL.2;have bG:(0:Int)<(m:Int):=by omega
  obtain⟨k5,aJ⟩: ∃q,y0.kind=q:=⟨_,rfl⟩;have e5:K0=k5:=by
   rw[<-ba.o,jS aH.o,<-aJ];simp only[Int.toNat_natCast];rw[jS aR.o]
  rw[aJ]at p0;subst e5;clear aJ aL aH aR;by_cases aI:K0=2;rotate_left
  ·have q2:(K0 != 2)=true:=by simpa using aI
   obtain rfl:R=7:=by rw[H.o,iQ];simp[M.o,S.o,aa.o,aI]
   go_wp2;all_goals(try(exfalso;go_light;simp_all;done));go_ret;exact⟨rfl,aT.o⟩
  subst aI;have q2:((2:Int) != 2)=false:=by decide
  go_wp2_with fail;refine(uP _ x.kind).mono ?_;rintro e w3 ⟨rfl,ap⟩;have a:=Hm (a.o.below ap);have L:=Hm (L.o.below ap);have f:=Hm (f.o.below ap);have d:=Hm (d.o.below ap);have F:=Hm (F.o.below ap);obtain⟨g,j,u,y,g4,z,B,C,D,E,l,p,r,t,G⟩:=jE ap G g j u y g4 z B C D E l p r t;have bi:=Hm (fH aT.o ap);clear ap;rw[HU.o];cases U
  ·obtain rfl:R=0:=by rw[H.o,iQ];simp[M.o,S.o,aa.o]
   go_wp2;all_goals(try(exfalso;go_light;simp_all;done));go_ret;exact⟨rfl,bi.o⟩
  go_wp2_with fail;refine(qY _ A2 n2 c2 J d.o).mono ?_;rintro e w5 ⟨rfl,aA⟩;have a:=Hm (a.o.below aA);have L:=Hm (L.o.below aA);have f:=Hm (f.o.below aA);have d:=Hm (d.o.below aA);have F:=Hm (F.o.below aA);obtain⟨g,j,u,y,g4,z,B,C,D,E,l,p,r,t,G⟩:=jE aA G g j u y g4 z B C D E l p r t;have bj:=Hm (fH bi.o aA);clear aA;rw[a0.o];by_cases af:CE=0
  ·subst af;go_wp2_with fail;refine(aP.o _ (by exact d.o) (by exact L.o)).mono ?_;rintro e w7 ⟨⟨v2,rfl,am⟩,P⟩;obtain⟨A5,c5,rfl⟩:=am.form;obtain⟨m2,ai⟩: ∃m,O.length=m:=⟨_,rfl⟩;have ag:=jB am rfl;rw[ai]at ag⊢;have ad:=Hm ai;clear am ai;have a:=Hm (a.o.below P);have f:=Hm (f.o.below P);have d:=Hm (d.o.below P);have F:=Hm (F.o.below P);obtain⟨g,j,u,y,g4,z,B,C,D,E,l,p,r,t,G⟩:=jE P G g j u y g4 z B C D E l p r t;have aY:=Hm (fH bj.o P);clear P;have ac:=Hm ag;clear ag;by_cases ak:oe=0
   ·subst ak;by_cases aF:m=m2
    ·subst aF;have aq:Hl (R=if (List.zip is O).any (qj cols J)=true then 7 else 0):=Hm (by rw[H.o,iQ];simp[M.o,S.o,aa.o,ad.o]);obtain⟨W5,rfl⟩: ∃W,W=w7:=⟨_,rfl⟩;have bl:=F.o.le;go_wp2;go_loopw [83] (λi wr=> ∃k:Nat,k<=m/\i=.int .i64 k/\(List.zip is O).any (qj cols J)=((List.zip is O).drop k).any (qj cols J)/\Below W5.heap.size W5 wr) (λi _=>m-(RowKit.intOf i).toNat)
     case atStart=>exact⟨0,Nat.zero_le _,rfl,rfl,Below.refl _ _⟩
     case round=>
      obtain⟨k,hk,rfl,aB,hb⟩:=hrel;have HE:=Hm aB;clear aB;have a:=Hm (a.o.below hb);have f:=Hm (f.o.below hb);have d:=Hm (d.o.below hb);have F:=Hm (F.o.below hb);have ac:=Hm (ac.o.below hb);obtain⟨g,j,u,y,g4,z,B,C,D,E,l,p,r,t,G⟩:=jE hb G g j u y g4 z B C D E l p r t;have a5:=Hm hb;clear hb;clear g j u y g4 z B C D E l p r t;by_cases aE:k<m
      ·obtain⟨b,off,j1,Z,bm,HX,e0,_⟩:=F.o.int aE
       first|(subst Z)|(injection Z with Z;injection Z with hA5 hA6;subst hA5;subst hA6)
       obtain⟨b2,bu,j2,rfl,bn,HY,f0,_⟩:=ac.o.int aE;have an:=aG.o (by first|rfl|trivial) j1 (gH HX.o);have ao:=aQ.o (by first|rfl|trivial) j2 (gH HY.o);rw[aN.o]at an;rw[a1.o]at ao;obtain⟨T,rfl⟩: ∃i:Nat,j1=(i:Int):=⟨j1.toNat,by omega⟩;obtain⟨V,rfl⟩: ∃i:Nat,j2=(i:Int):=⟨j2.toNat,by omega⟩;obtain⟨b3,bv,y1,Y,bo,ar,_,p1,_,_⟩:=f.o.col (k:=T) (by omega)
       first|(subst Y)|(injection Y with Y;injection Y with hA7 hA8;subst hA7;subst hA8)
       obtain⟨b4,bw,y2,rfl,bp,au,_,q1,_,_⟩:=d.o.col (k:=V) (by omega);have av:Hl ((List.zip is O).drop k=((T:Int),(V:Int))::(List.zip is O).drop (k+1)):=Hm (by
        rw[List.zip,List.drop_zipWith,HX.o,HY.o,List.zipWith_cons_cons,List.drop_zipWith])
       have X:Hl (qj cols J ((T:Int),(V:Int))=(y1.kind != y2.kind)):=Hm (by
        rw[qj];simp only[Int.toNat_natCast];rw[jS ar.o,jS au.o])
       have k0:(0:Int)<=(k:Int):=by omega
       have k1:(k:Int)<(m:Int):=by omega
       have bq:(0:Int)<=(T:Int):=by omega
       have br:(T:Int)<(n1:Int):=an.2;have bs:(0:Int)<=(V:Int):=by omega
       have bt:(V:Int)<(n2:Int):=ao.2;have aM:=Hm a5.o;have ab:=Hm (fH aY.o a5.o);clear an ao ar au HX HY;obtain⟨k3,aC⟩: ∃q,y1.kind=q:=⟨_,rfl⟩;obtain⟨k4,aD⟩: ∃q,y2.kind=q:=⟨_,rfl⟩;rw[aC]at p1 X;rw[aD]at q1 X;clear aC aD;go_wp2;go_quiet (fail);by_cases hq:k3=k4
       ·subst hq;have a:Hl ((List.zip is O).any (qj cols J)=((List.zip is O).drop (k+1)).any (qj cols J)):=Hm (by rw[HE.o,av.o,List.any_cons,X.o];simp);go_wp2;all_goals(try(exfalso;go_light;simp_all;done));go_roundw
        case rel=>exact⟨k+1,by omega,by go_num,a.o,below_drewN aM.o _⟩
        case measure=>simp[RowKit.intOf];omega
       ·have aV:(k3 != k4)=true:=by simpa using hq
        obtain rfl:R=7:=by rw[aq.o,HE.o,av.o,List.any_cons,X.o,aV];simp
        go_wp2;all_goals(try(exfalso;go_light;simp_all;done));go_ret;exact⟨rfl,below_drewN ab.o _⟩
      ·obtain rfl:R=0:=by rw[aq.o,HE.o,List.drop_eq_nil_of_le (by rw[List.length_zip,M.o,ad.o];omega)];rfl
       have ab:=Hm (fH aY.o a5.o);go_wp2;all_goals(try(exfalso;go_light;simp_all;done));go_ret;exact⟨rfl,ab.o⟩
    ·have q5:((m:Int) != (m2:Int))=true:=by simp;omega
     obtain rfl:R=8:=by rw[H.o,iQ];simp[M.o,S.o,aa.o,ad.o,aF]
     go_wp2;all_goals(try(exfalso;go_light;simp_all;done));go_ret;exact⟨rfl,aY.o⟩
   ·have q4:(oe != 0)=true:=by simpa using ak
    obtain rfl:R=oe:=by rw[H.o,iQ];simp[M.o,S.o,aa.o,ak]
    go_wp2;all_goals(try(exfalso;go_light;simp_all;done));go_ret;exact⟨rfl,aY.o⟩
  ·have q3:(CE != 0)=true:=by simpa using af
   obtain rfl:R=CE:=by rw[H.o,iQ];simp[M.o,S.o,aa.o,af]
   go_wp2;all_goals(try(exfalso;go_light;simp_all;done));go_ret;exact⟨rfl,bj.o⟩
 ·go_enter Tryz.func145,Tryz.ntmps145;have a:=Hm hn;clear hn;have L:=Hm aK;clear aK;have f:=Hm hc;clear hc;have d:=Hm ho;clear ho;go_wp2_with fail;obtain⟨W1,ae⟩: ∃W,W=w.alloc (.cells #[.string x.name,.string x.table,.int .i64 x.kind,.slice A n c,.string x.other,.slice A' n' c',.int .i64 x.low,.int .i64 x.high,.slice A'' n'' c'',.int .i64 x.ln,.int .i64 x.ld,.int .i64 x.mn,.int .i64 x.md,.int .i64 x.policy] 48):=⟨_,rfl⟩;obtain⟨Q,bk,g,j,u,y,g4,z,B,C,D,E,l,p,r,t⟩:=iE ae rfl;rw[<-ae];clear ae;have a:=Hm (a.o.below Q);have L:=Hm (L.o.below Q);have f:=Hm (f.o.below Q);have d:=Hm (d.o.below Q);have bA:=Hm Q;clear Q;have G:=lt_of_cell g;go_wp2_with fail;refine(aO.o _ (by exact f.o) (by exact a.o)).mono ?_;rintro e w1 ⟨⟨v,rfl,al⟩,N⟩;obtain⟨A4,c4,rfl⟩:=al.form;obtain⟨m,hm⟩: ∃m,is.length=m:=⟨_,rfl⟩;have ah:=jB al rfl;rw[hm]at ah⊢;have M:=Hm hm;clear al hm;have a:=Hm (a.o.below N);have L:=Hm (L.o.below N);have f:=Hm (f.o.below N);have d:=Hm (d.o.below N);obtain⟨g,j,u,y,g4,z,B,C,D,E,l,p,r,t,G⟩:=jE N G g j u y g4 z B C D E l p r t;have aS:=Hm (fH bA.o N);clear N;have F:=Hm ah;clear ah;by_cases h0:ie=0;rotate_left
  ·have q0:(ie != 0)=true:=by simpa using h0
   obtain rfl:R=ie:=by rw[H.o,iQ,if_pos h0]
   go_wp2;all_goals(try(exfalso;go_light;simp_all;done));go_ret;exact⟨rfl,aS.o⟩
  subst h0;by_cases aj:m=0
  ·subst aj;obtain rfl:R=8:=by rw[H.o,iQ];simp[M.o]
   go_wp2;all_goals(try(exfalso;go_light;simp_all;done));go_ret;exact⟨rfl,aS.o⟩
  have qz:((m:Int)==0)=false:=by simpa using aj
  have S:=Hm aj;by_cases aU:1<m
  ·have q1:decide (1<(m:Int))=true:=by simp;omega
   obtain rfl:R=8:=by rw[H.o,iQ];simp[M.o,aU]
   go_wp2;all_goals(try(exfalso;go_light;simp_all;done));go_ret;exact⟨rfl,aS.o⟩
  have q1:decide (1<(m:Int))=false:=by simp;omega
  have aa:=Hm aU;obtain⟨b0,o0,j0,rfl,bB,aH,e0,_⟩:=F.o.int (k:=0) (by omega);rw[Nat.add_zero]at e0;have aL:=aG.o (by first|rfl|trivial) j0 (gH aH.o);rw[aN.o]at aL;obtain⟨i0,rfl⟩: ∃i:Nat,j0=(i:Int):=⟨j0.toNat,by omega⟩;obtain⟨bc,oc,y0,rfl,bC,aR,_,p0,_,_⟩:=f.o.col (k:=i0) (by omega);have bE:(0:Int)<=(i0:Int):=by omega
  have bF:(i0:Int)<(n1:Int):=aL.2;have bG:(0:Int)<(m:Int):=by omega
  obtain⟨k5,aJ⟩: ∃q,y0.kind=q:=⟨_,rfl⟩;have e5:K0=k5:=by
   rw[<-ba.o,jS aH.o,<-aJ];simp only[Int.toNat_natCast];rw[jS aR.o]
  rw[aJ]at p0;subst e5;clear aJ aL aH aR;by_cases aI:K0=2;rotate_left
  ·have q2:(K0 != 2)=true:=by simpa using aI
   obtain rfl:R=7:=by rw[H.o,iQ];simp[M.o,S.o,aa.o,aI]
   go_wp2;all_goals(try(exfalso;go_light;simp_all;done));go_ret;exact⟨rfl,aS.o⟩
  subst aI;have q2:((2:Int) != 2)=false:=by decide
  go_wp2_with fail;refine(uP _ x.kind).mono ?_;rintro e bI ⟨rfl,aw⟩;have a:=Hm (a.o.below aw);have L:=Hm (L.o.below aw);have f:=Hm (f.o.below aw);have d:=Hm (d.o.below aw);have F:=Hm (F.o.below aw);obtain⟨g,j,u,y,g4,z,B,C,D,E,l,p,r,t,G⟩:=jE aw G g j u y g4 z B C D E l p r t;have be:=Hm (fH aS.o aw);clear aw;rw[HU.o];cases U
  ·obtain rfl:R=0:=by rw[H.o,iQ];simp[M.o,S.o,aa.o]
   go_wp2;all_goals(try(exfalso;go_light;simp_all;done));go_ret;exact⟨rfl,be.o⟩
  go_wp2_with fail;refine(qY _ A2 n2 c2 J d.o).mono ?_;rintro e bJ ⟨rfl,ax⟩;have a:=Hm (a.o.below ax);have L:=Hm (L.o.below ax);have f:=Hm (f.o.below ax);have d:=Hm (d.o.below ax);have F:=Hm (F.o.below ax);obtain⟨g,j,u,y,g4,z,B,C,D,E,l,p,r,t,G⟩:=jE ax G g j u y g4 z B C D E l p r t;have bf:=Hm (fH be.o ax);clear ax;rw[a0.o];by_cases af:CE=0
  ·subst af;go_wp2_with fail;refine(aP.o _ (by exact d.o) (by exact L.o)).mono ?_;rintro e w7 ⟨⟨v2,rfl,am⟩,P⟩;obtain⟨A5,c5,rfl⟩:=am.form;obtain⟨m2,ai⟩: ∃m,O.length=m:=⟨_,rfl⟩;have ag:=jB am rfl;rw[ai]at ag⊢;have ad:=Hm ai;clear am ai;have a:=Hm (a.o.below P);have f:=Hm (f.o.below P);have d:=Hm (d.o.below P);have F:=Hm (F.o.below P);obtain⟨g,j,u,y,g4,z,B,C,D,E,l,p,r,t,G⟩:=jE P G g j u y g4 z B C D E l p r t;have aW:=Hm (fH bf.o P);clear P;have ac:=Hm ag;clear ag;by_cases ak:oe=0
   ·subst ak;by_cases aF:m=m2
    ·subst aF;have aq:Hl (R=if (List.zip is O).any (qj cols J)=true then 7 else 0):=Hm (by rw[H.o,iQ];simp[M.o,S.o,aa.o,ad.o]);obtain⟨W5,rfl⟩: ∃W,W=w7:=⟨_,rfl⟩;have bl:=F.o.le;go_wp2;go_loopw [83] (λi wr=> ∃k:Nat,k<=m/\i=.int .i64 k/\(List.zip is O).any (qj cols J)=((List.zip is O).drop k).any (qj cols J)/\Below W5.heap.size W5 wr) (λi _=>m-(RowKit.intOf i).toNat)
     case atStart=>exact⟨0,Nat.zero_le _,rfl,rfl,Below.refl _ _⟩
     case round=>
      obtain⟨k,hk,rfl,aB,hb⟩:=hrel;have HE:=Hm aB;clear aB;have a:=Hm (a.o.below hb);have f:=Hm (f.o.below hb);have d:=Hm (d.o.below hb);have F:=Hm (F.o.below hb);have ac:=Hm (ac.o.below hb);obtain⟨g,j,u,y,g4,z,B,C,D,E,l,p,r,t,G⟩:=jE hb G g j u y g4 z B C D E l p r t;have a2:=Hm hb;clear hb;clear g j u y g4 z B C D E l p r t;by_cases aE:k<m
      ·obtain⟨b,off,j1,Z,bm,HX,e0,_⟩:=F.o.int aE
       first|(subst Z)|(injection Z with Z;injection Z with hA5 hA6;subst hA5;subst hA6)
       obtain⟨b2,bu,j2,rfl,bn,HY,f0,_⟩:=ac.o.int aE;have an:=aG.o (by first|rfl|trivial) j1 (gH HX.o);have ao:=aQ.o (by first|rfl|trivial) j2 (gH HY.o);rw[aN.o]at an;rw[a1.o]at ao;obtain⟨T,rfl⟩: ∃i:Nat,j1=(i:Int):=⟨j1.toNat,by omega⟩;obtain⟨V,rfl⟩: ∃i:Nat,j2=(i:Int):=⟨j2.toNat,by omega⟩;obtain⟨b3,bv,y1,Y,bo,ar,_,p1,_,_⟩:=f.o.col (k:=T) (by omega)
       first|(subst Y)|(injection Y with Y;injection Y with hA7 hA8;subst hA7;subst hA8)
       obtain⟨b4,bw,y2,rfl,bp,au,_,q1,_,_⟩:=d.o.col (k:=V) (by omega);have av:Hl ((List.zip is O).drop k=((T:Int),(V:Int))::(List.zip is O).drop (k+1)):=Hm (by
        rw[List.zip,List.drop_zipWith,HX.o,HY.o,List.zipWith_cons_cons,List.drop_zipWith])
       have X:Hl (qj cols J ((T:Int),(V:Int))=(y1.kind != y2.kind)):=Hm (by
        rw[qj];simp only[Int.toNat_natCast];rw[jS ar.o,jS au.o])
       have k0:(0:Int)<=(k:Int):=by omega
       have k1:(k:Int)<(m:Int):=by omega
       have bq:(0:Int)<=(T:Int):=by omega
       have br:(T:Int)<(n1:Int):=an.2;have bs:(0:Int)<=(V:Int):=by omega
       have bt:(V:Int)<(n2:Int):=ao.2;have aM:=Hm a2.o;have ab:=Hm (fH aW.o a2.o);clear an ao ar au HX HY;obtain⟨k3,aC⟩: ∃q,y1.kind=q:=⟨_,rfl⟩;obtain⟨k4,aD⟩: ∃q,y2.kind=q:=⟨_,rfl⟩;rw[aC]at p1 X;rw[aD]at q1 X;clear aC aD;go_wp2;go_quiet (fail);by_cases hq:k3=k4
       ·subst hq;have a:Hl ((List.zip is O).any (qj cols J)=((List.zip is O).drop (k+1)).any (qj cols J)):=Hm (by rw[HE.o,av.o,List.any_cons,X.o];simp);go_wp2;all_goals(try(exfalso;go_light;simp_all;done));go_roundw
        case rel=>exact⟨k+1,by omega,by go_num,a.o,below_drewN aM.o _⟩
        case measure=>simp[RowKit.intOf];omega
       ·have aV:(k3 != k4)=true:=by simpa using hq
        obtain rfl:R=7:=by rw[aq.o,HE.o,av.o,List.any_cons,X.o,aV];simp
        go_wp2;all_goals(try(exfalso;go_light;simp_all;done));go_ret;exact⟨rfl,below_drewN ab.o _⟩
      ·obtain rfl:R=0:=by rw[aq.o,HE.o,List.drop_eq_nil_of_le (by rw[List.length_zip,M.o,ad.o];omega)];rfl
       have ab:=Hm (fH aW.o a2.o);go_wp2;all_goals(try(exfalso;go_light;simp_all;done));go_ret;exact⟨rfl,ab.o⟩
    ·have q5:((m:Int) != (m2:Int))=true:=by simp;omega
     obtain rfl:R=8:=by rw[H.o,iQ];simp[M.o,S.o,aa.o,ad.o,aF]
     go_wp2;all_goals(try(exfalso;go_light;simp_all;done));go_ret;exact⟨rfl,aW.o⟩
   ·have q4:(oe != 0)=true:=by simpa using ak
    obtain rfl:R=oe:=by rw[H.o,iQ];simp[M.o,S.o,aa.o,ak]
    go_wp2;all_goals(try(exfalso;go_light;simp_all;done));go_ret;exact⟨rfl,aW.o⟩
  ·have q3:(CE != 0)=true:=by simpa using af
   obtain rfl:R=CE:=by rw[H.o,iQ];simp[M.o,S.o,aa.o,af]
   go_wp2;all_goals(try(exfalso;go_light;simp_all;done));go_ret;exact⟨rfl,bf.o⟩
 ·go_enter Tryz.func145,Tryz.ntmps145;have a:=Hm hn;clear hn;have L:=Hm aK;clear aK;have f:=Hm hc;clear hc;have d:=Hm ho;clear ho;go_wp2_with fail;obtain⟨W1,ae⟩: ∃W,W=w.alloc (.cells #[.string x.name,.string x.table,.int .i64 x.kind,.slice A n c,.string x.other,.slice A' n' c',.int .i64 x.low,.int .i64 x.high,.slice A'' n'' c'',.int .i64 x.ln,.int .i64 x.ld,.int .i64 x.mn,.int .i64 x.md,.int .i64 x.policy] 48):=⟨_,rfl⟩;obtain⟨Q,bk,g,j,u,y,g4,z,B,C,D,E,l,p,r,t⟩:=iE ae rfl;rw[<-ae];clear ae;have a:=Hm (a.o.below Q);have L:=Hm (L.o.below Q);have f:=Hm (f.o.below Q);have d:=Hm (d.o.below Q);have bz:=Hm Q;clear Q;have G:=lt_of_cell g;go_wp2_with fail;refine(aO.o _ (by exact f.o) (by exact a.o)).mono ?_;rintro e w1 ⟨⟨v,rfl,al⟩,N⟩;obtain⟨A4,c4,rfl⟩:=al.form;obtain⟨m,hm⟩: ∃m,is.length=m:=⟨_,rfl⟩;have ah:=jB al rfl;rw[hm]at ah⊢;have M:=Hm hm;clear al hm;have a:=Hm (a.o.below N);have L:=Hm (L.o.below N);have f:=Hm (f.o.below N);have d:=Hm (d.o.below N);obtain⟨g,j,u,y,g4,z,B,C,D,E,l,p,r,t,G⟩:=jE N G g j u y g4 z B C D E l p r t;have a3:=Hm (fH bz.o N);clear N;have F:=Hm ah;clear ah;by_cases h0:ie=0;rotate_left
  ·have q0:(ie != 0)=true:=by simpa using h0
   obtain rfl:R=ie:=by rw[H.o,iQ,if_pos h0]
   go_wp2;all_goals(try(exfalso;go_light;simp_all;done));go_ret;exact⟨rfl,a3.o⟩
  subst h0;by_cases aj:m=0
  ·subst aj;obtain rfl:R=8:=by rw[H.o,iQ];simp[M.o]
   go_wp2;all_goals(try(exfalso;go_light;simp_all;done));go_ret;exact⟨rfl,a3.o⟩
  have qz:((m:Int)==0)=false:=by simpa using aj
  have S:=Hm aj;go_wp2_with fail;refine(uP _ x.kind).mono ?_;rintro e bK ⟨rfl,ay⟩;have a:=Hm (a.o.below ay);have L:=Hm (L.o.below ay);have f:=Hm (f.o.below ay);have d:=Hm (d.o.below ay);have F:=Hm (F.o.below ay);obtain⟨g,j,u,y,g4,z,B,C,D,E,l,p,r,t,G⟩:=jE ay G g j u y g4 z B C D E l p r t;have bg:=Hm (fH a3.o ay);clear ay;rw[HU.o];cases U
  ·obtain rfl:R=0:=by rw[H.o,iQ];simp[M.o,S.o]
   go_wp2;all_goals(try(exfalso;go_light;simp_all;done));go_ret;exact⟨rfl,bg.o⟩
  go_wp2_with fail;refine(qY _ A2 n2 c2 J d.o).mono ?_;rintro e bL ⟨rfl,az⟩;have a:=Hm (a.o.below az);have L:=Hm (L.o.below az);have f:=Hm (f.o.below az);have d:=Hm (d.o.below az);have F:=Hm (F.o.below az);obtain⟨g,j,u,y,g4,z,B,C,D,E,l,p,r,t,G⟩:=jE az G g j u y g4 z B C D E l p r t;have bh:=Hm (fH bg.o az);clear az;rw[a0.o];by_cases af:CE=0
  ·subst af;go_wp2_with fail;refine(aP.o _ (by exact d.o) (by exact L.o)).mono ?_;rintro e w7 ⟨⟨v2,rfl,am⟩,P⟩;obtain⟨A5,c5,rfl⟩:=am.form;obtain⟨m2,ai⟩: ∃m,O.length=m:=⟨_,rfl⟩;have ag:=jB am rfl;rw[ai]at ag⊢;have ad:=Hm ai;clear am ai;have a:=Hm (a.o.below P);have f:=Hm (f.o.below P);have d:=Hm (d.o.below P);have F:=Hm (F.o.below P);obtain⟨g,j,u,y,g4,z,B,C,D,E,l,p,r,t,G⟩:=jE P G g j u y g4 z B C D E l p r t;have aX:=Hm (fH bh.o P);clear P;have ac:=Hm ag;clear ag;by_cases ak:oe=0
   ·subst ak;by_cases aF:m=m2
    ·subst aF;have aq:Hl (R=if (List.zip is O).any (qj cols J)=true then 7 else 0):=Hm (by rw[H.o,iQ];simp[M.o,S.o,ad.o]);obtain⟨W5,rfl⟩: ∃W,W=w7:=⟨_,rfl⟩;have bl:=F.o.le;go_wp2;go_loopw [83] (λi wr=> ∃k:Nat,k<=m/\i=.int .i64 k/\(List.zip is O).any (qj cols J)=((List.zip is O).drop k).any (qj cols J)/\Below W5.heap.size W5 wr) (λi _=>m-(RowKit.intOf i).toNat)
     case atStart=>exact⟨0,Nat.zero_le _,rfl,rfl,Below.refl _ _⟩
     case round=>
      obtain⟨k,hk,rfl,aB,hb⟩:=hrel;have HE:=Hm aB;clear aB;have a:=Hm (a.o.below hb);have f:=Hm (f.o.below hb);have d:=Hm (d.o.below hb);have F:=Hm (F.o.below hb);have ac:=Hm (ac.o.below hb);obtain⟨g,j,u,y,g4,z,B,C,D,E,l,p,r,t,G⟩:=jE hb G g j u y g4 z B C D E l p r t;have a4:=Hm hb;clear hb;clear g j u y g4 z B C D E l p r t;by_cases aE:k<m
      ·obtain⟨b,off,j1,Z,bm,HX,e0,_⟩:=F.o.int aE
       first|(subst Z)|(injection Z with Z;injection Z with hA5 hA6;subst hA5;subst hA6)
       obtain⟨b2,bu,j2,rfl,bn,HY,f0,_⟩:=ac.o.int aE;have an:=aG.o (by first|rfl|trivial) j1 (gH HX.o);have ao:=aQ.o (by first|rfl|trivial) j2 (gH HY.o);rw[aN.o]at an;rw[a1.o]at ao;obtain⟨T,rfl⟩: ∃i:Nat,j1=(i:Int):=⟨j1.toNat,by omega⟩;obtain⟨V,rfl⟩: ∃i:Nat,j2=(i:Int):=⟨j2.toNat,by omega⟩;obtain⟨b3,bv,y1,Y,bo,ar,_,p1,_,_⟩:=f.o.col (k:=T) (by omega)
       first|(subst Y)|(injection Y with Y;injection Y with hA7 hA8;subst hA7;subst hA8)
       obtain⟨b4,bw,y2,rfl,bp,au,_,q1,_,_⟩:=d.o.col (k:=V) (by omega);have av:Hl ((List.zip is O).drop k=((T:Int),(V:Int))::(List.zip is O).drop (k+1)):=Hm (by
        rw[List.zip,List.drop_zipWith,HX.o,HY.o,List.zipWith_cons_cons,List.drop_zipWith])
       have X:Hl (qj cols J ((T:Int),(V:Int))=(y1.kind != y2.kind)):=Hm (by
        rw[qj];simp only[Int.toNat_natCast];rw[jS ar.o,jS au.o])
       have k0:(0:Int)<=(k:Int):=by omega
       have k1:(k:Int)<(m:Int):=by omega
       have bq:(0:Int)<=(T:Int):=by omega
       have br:(T:Int)<(n1:Int):=an.2;have bs:(0:Int)<=(V:Int):=by omega
       have bt:(V:Int)<(n2:Int):=ao.2;have aM:=Hm a4.o;have ab:=Hm (fH aX.o a4.o);clear an ao ar au HX HY;obtain⟨k3,aC⟩: ∃q,y1.kind=q:=⟨_,rfl⟩;obtain⟨k4,aD⟩: ∃q,y2.kind=q:=⟨_,rfl⟩;rw[aC]at p1 X;rw[aD]at q1 X;clear aC aD;go_wp2;go_quiet (fail);by_cases hq:k3=k4
       ·subst hq;have a:Hl ((List.zip is O).any (qj cols J)=((List.zip is O).drop (k+1)).any (qj cols J)):=Hm (by rw[HE.o,av.o,List.any_cons,X.o];simp);go_wp2;all_goals(try(exfalso;go_light;simp_all;done));go_roundw
        case rel=>exact⟨k+1,by omega,by go_num,a.o,below_drewN aM.o _⟩
        case measure=>simp[RowKit.intOf];omega
       ·have aV:(k3 != k4)=true:=by simpa using hq
        obtain rfl:R=7:=by rw[aq.o,HE.o,av.o,List.any_cons,X.o,aV];simp
        go_wp2;all_goals(try(exfalso;go_light;simp_all;done));go_ret;exact⟨rfl,below_drewN ab.o _⟩
      ·obtain rfl:R=0:=by rw[aq.o,HE.o,List.drop_eq_nil_of_le (by rw[List.length_zip,M.o,ad.o];omega)];rfl
       have ab:=Hm (fH aX.o a4.o);go_wp2;all_goals(try(exfalso;go_light;simp_all;done));go_ret;exact⟨rfl,ab.o⟩
    ·have q5:((m:Int) != (m2:Int))=true:=by simp;omega
     obtain rfl:R=8:=by rw[H.o,iQ];simp[M.o,S.o,ad.o,aF]
     go_wp2;all_goals(try(exfalso;go_light;simp_all;done));go_ret;exact⟨rfl,aX.o⟩
   ·have q4:(oe != 0)=true:=by simpa using ak
    obtain rfl:R=oe:=by rw[H.o,iQ];simp[M.o,S.o,ak]
    go_wp2;all_goals(try(exfalso;go_light;simp_all;done));go_ret;exact⟨rfl,aX.o⟩
  ·have q3:(CE != 0)=true:=by simpa using af
   obtain rfl:R=CE:=by rw[H.o,iQ];simp[M.o,S.o,af]
   go_wp2;all_goals(try(exfalso;go_light;simp_all;done));go_ret;exact⟨rfl,bh.o⟩
end Go.Proofs.YtopjjlmfilgngaaGreatDoor
