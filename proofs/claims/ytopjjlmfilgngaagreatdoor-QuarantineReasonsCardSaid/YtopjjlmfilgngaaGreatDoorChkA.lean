/-
  check.Validate, check.checkAll. (Printed by gen_chka.py.)
-/
import Derived.Test.YtopjjlmfilgngaaGreatDoorChkV
namespace Go.Proofs.YtopjjlmfilgngaaGreatDoor
set_option maxHeartbeats 4000000
set_option maxRecDepth 100000
open Go.RowKit
set_option linter.unusedSimpArgs false
set_option linter.unusedVariables false
theorem kZ (x:Chk)(cols a:List Col)(zs:List Zone)(b:¬(x.kind<0\/6<x.kind\/x.policy<0\/2<x.policy))(c:¬(x.policy=0/\(x.kind=5\/x.kind=6))):
  gQ x cols a zs=if gu cols≠0 then gu cols else if mg x.kind=false then mR x cols a else if kC x cols zs≠0 then kC x cols zs else if x.kind=5/\(jb x.ln x.ld&&jb x.mn x.md)=false then 1 else 0:=by
 rw[gQ,if_neg b,if_neg c]
theorem yg (w:World)(x:Chk)(A:Option Addr)(n c:Nat)(Y:In w A n c x.cols)(A':Option Addr)(n' c':Nat)(Z:In w A' n' c' x.ocols)(A'':Option Addr)(n'' c'':Nat)(hq:In w A'' n'' c'' x.cond)(hw:Words w)(O:Option Addr)(M c1:Nat)(cols:List Col)(F:In w O M c1 cols)(A2:Option Addr)(n2 c2:Nat)(G:List Col)(ho:In w A2 n2 c2 G)(A5:Option Addr)(n5 c5:Nat)(zs:List Zone)(hz:In w A5 n5 c5 zs)(aR:n<=4096)(aS:n'<=4096)(aT:M<=4096)(aU:n2<=4096):
  Calls Tryz.prog 113 #[.agg (fZ x A n c A' n' c' A'' n'' c'').toArray,.slice O M c1,.slice A2 n2 c2,.slice A5 n5 c5] w λe w'=>e=.returned (.int .i64 (gQ x cols G zs))/\Below w.heap.size w w':=by
 have ae:=Hm λW Y Z F ho=>wZ W x A n c Y A' n' c' Z A'' n'' c'' O M c1 cols F A2 n2 c2 G ho aR aS aT aU;have af:=Hm λW hq hw F hz=>Ai W x A n c A' n' c' A'' n'' c'' hq hw O M c1 cols F A5 n5 c5 zs hz;have am:=Hm λW=>JJ W x.kind;have ax:=Hm λW=>Ch W x.ln x.ld;have ay:=Hm λW=>Ch W x.mn x.md;have HP:=Hm (kZ x cols G zs);have E:=Hm (show gQ x cols G zs=if x.kind<0\/6<x.kind\/x.policy<0\/2<x.policy then 1 else if x.policy=0/\(x.kind=5\/x.kind=6) then 7 else gQ x cols G zs from by
  by_cases h1:x.kind<0\/6<x.kind\/x.policy<0\/2<x.policy
  ·rw[if_pos h1,gQ,if_pos h1]
  ·rw[if_neg h1];by_cases h2:x.policy=0/\(x.kind=5\/x.kind=6)
   ·rw[if_pos h2,gQ,if_neg h1,if_pos h2]
   ·rw[if_neg h2])
 obtain⟨R,hR⟩: ∃R,gQ x cols G zs=R:=⟨_,rfl⟩;rw[hR]at E HP;rw[hR];obtain⟨z,ao⟩: ∃C,gu cols=C:=⟨_,rfl⟩;obtain⟨CK,ap⟩: ∃C,mR x cols G=C:=⟨_,rfl⟩;obtain⟨CD,an⟩: ∃C,kC x cols zs=C:=⟨_,rfl⟩;obtain⟨UC,au⟩: ∃U,mg x.kind=U:=⟨_,rfl⟩;obtain⟨S1,aq⟩: ∃S,jb x.ln x.ld=S:=⟨_,rfl⟩;obtain⟨S2,ar⟩: ∃S,jb x.mn x.md=S:=⟨_,rfl⟩;rw[ao,ap,an,au,aq,ar]at HP;rw[ap]at ae;rw[an]at af;rw[au]at am;rw[aq]at ax;rw[ar]at ay;have av:=Hm ao;clear hR ao ap an au aq ar;have hA:(decide (x.kind<0)=true/\R=1)\/(decide (x.kind<0)=false/\decide (6<x.kind)=true/\R=1)\/(decide (x.kind<0)=false/\decide (6<x.kind)=false/\decide (x.policy<0)=true/\R=1)
   \/(decide (x.kind<0)=false/\decide (6<x.kind)=false/\decide (x.policy<0)=false/\decide (2<x.policy)=true/\R=1)
   \/(decide (x.kind<0)=false/\decide (6<x.kind)=false/\decide (x.policy<0)=false/\decide (2<x.policy)=false/\((((x.policy==0)=true/\(x.kind==5)=true/\R=7)\/((x.policy==0)=true/\(x.kind==5)=false/\(x.kind==6)=true/\R=7)
    \/((x.policy==0)=true/\(x.kind==5)=false/\(x.kind==6)=false/\Hl (R=if z≠0 then z else if UC=false then CK else if CD≠0 then CD else if x.kind=5/\(S1&&S2)=false then 1 else 0))\/((x.policy==0)=false/\Hl (R=if z≠0 then z else if UC=false then CK else if CD≠0 then CD else if x.kind=5/\(S1&&S2)=false then 1 else 0))))):=by
  by_cases V:x.kind<0
  ·exact .inl ⟨by simpa using V,by rw[E.o,if_pos (.inl V)]⟩
  by_cases a2:6<x.kind
  ·exact .inr (.inl ⟨by simpa using V,by simpa using a2,by rw[E.o,if_pos (.inr (.inl a2))]⟩)
  by_cases a3:x.policy<0
  ·exact .inr (.inr (.inl ⟨by simpa using V,by simpa using a2,by simpa using a3,by rw[E.o,if_pos (.inr (.inr (.inl a3)))]⟩))
  by_cases a4:2<x.policy
  ·exact .inr (.inr (.inr (.inl ⟨by simpa using V,by simpa using a2,by simpa using a3,by simpa using a4,by rw[E.o,if_pos (.inr (.inr (.inr a4)))]⟩)))
  have b:¬(x.kind<0\/6<x.kind\/x.policy<0\/2<x.policy):=by omega
  refine .inr (.inr (.inr (.inr ⟨by simpa using V,by simpa using a2,by simpa using a3,by simpa using a4,?_⟩)));by_cases X:x.policy=0
  ·by_cases a6:x.kind=5
   ·exact .inl ⟨by simpa using X,by simpa using a6,by rw[E.o,if_neg b,if_pos ⟨X,.inl a6⟩]⟩
   by_cases a7:x.kind=6
   ·exact .inr (.inl ⟨by simpa using X,by simpa using a6,by simpa using a7,by rw[E.o,if_neg b,if_pos ⟨X,.inr a7⟩]⟩)
   ·exact .inr (.inr (.inl ⟨by simpa using X,by simpa using a6,by simpa using a7,Hm (HP.o b (by omega))⟩))
  ·exact .inr (.inr (.inr ⟨by simpa using X,Hm (HP.o b (by omega))⟩))
 clear E HP;simp only[fZ]at ae af⊢;rcases hA with ⟨d1,rfl⟩|⟨d1,d2,rfl⟩|⟨d1,d2,d3,rfl⟩|⟨d1,d2,d3,d4,rfl⟩|⟨d1,d2,d3,d4,⟨d5,d6,rfl⟩|⟨d5,d6,d7,rfl⟩|⟨d5,d6,d7,v⟩|⟨d5,v⟩⟩
 ·go_enter Tryz.func113,Tryz.ntmps113;go_wp2_with fail;obtain⟨W1,d⟩: ∃W,W=w.alloc (.cells #[.string x.name,.string x.table,.int .i64 x.kind,.slice A n c,.string x.other,.slice A' n' c',.int .i64 x.low,.int .i64 x.high,.slice A'' n'' c'',.int .i64 x.ln,.int .i64 x.ld,.int .i64 x.mn,.int .i64 x.md,.int .i64 x.policy] 48):=⟨_,rfl⟩;obtain⟨u,J,a,f,k,l,g4,m,p,q,r,s,g,h,i,j⟩:=iE d rfl;rw[<-d];clear d;have aL:=Hm u;clear u;have t:=lt_of_cell a;go_wp2;all_goals(try(exfalso;go_light;simp_all;done));go_ret;exact⟨rfl,aL.o⟩
 ·go_enter Tryz.func113,Tryz.ntmps113;go_wp2_with fail;obtain⟨W1,d⟩: ∃W,W=w.alloc (.cells #[.string x.name,.string x.table,.int .i64 x.kind,.slice A n c,.string x.other,.slice A' n' c',.int .i64 x.low,.int .i64 x.high,.slice A'' n'' c'',.int .i64 x.ln,.int .i64 x.ld,.int .i64 x.mn,.int .i64 x.md,.int .i64 x.policy] 48):=⟨_,rfl⟩;obtain⟨u,J,a,f,k,l,g4,m,p,q,r,s,g,h,i,j⟩:=iE d rfl;rw[<-d];clear d;have aM:=Hm u;clear u;have t:=lt_of_cell a;go_wp2;all_goals(try(exfalso;go_light;simp_all;done));go_ret;exact⟨rfl,aM.o⟩
 ·go_enter Tryz.func113,Tryz.ntmps113;go_wp2_with fail;obtain⟨W1,d⟩: ∃W,W=w.alloc (.cells #[.string x.name,.string x.table,.int .i64 x.kind,.slice A n c,.string x.other,.slice A' n' c',.int .i64 x.low,.int .i64 x.high,.slice A'' n'' c'',.int .i64 x.ln,.int .i64 x.ld,.int .i64 x.mn,.int .i64 x.md,.int .i64 x.policy] 48):=⟨_,rfl⟩;obtain⟨u,J,a,f,k,l,g4,m,p,q,r,s,g,h,i,j⟩:=iE d rfl;rw[<-d];clear d;have aN:=Hm u;clear u;have t:=lt_of_cell a;go_wp2;all_goals(try(exfalso;go_light;simp_all;done));go_ret;exact⟨rfl,aN.o⟩
 ·go_enter Tryz.func113,Tryz.ntmps113;go_wp2_with fail;obtain⟨W1,d⟩: ∃W,W=w.alloc (.cells #[.string x.name,.string x.table,.int .i64 x.kind,.slice A n c,.string x.other,.slice A' n' c',.int .i64 x.low,.int .i64 x.high,.slice A'' n'' c'',.int .i64 x.ln,.int .i64 x.ld,.int .i64 x.mn,.int .i64 x.md,.int .i64 x.policy] 48):=⟨_,rfl⟩;obtain⟨u,J,a,f,k,l,g4,m,p,q,r,s,g,h,i,j⟩:=iE d rfl;rw[<-d];clear d;have aO:=Hm u;clear u;have t:=lt_of_cell a;go_wp2;all_goals(try(exfalso;go_light;simp_all;done));go_ret;exact⟨rfl,aO.o⟩
 ·go_enter Tryz.func113,Tryz.ntmps113;go_wp2_with fail;obtain⟨W1,d⟩: ∃W,W=w.alloc (.cells #[.string x.name,.string x.table,.int .i64 x.kind,.slice A n c,.string x.other,.slice A' n' c',.int .i64 x.low,.int .i64 x.high,.slice A'' n'' c'',.int .i64 x.ln,.int .i64 x.ld,.int .i64 x.mn,.int .i64 x.md,.int .i64 x.policy] 48):=⟨_,rfl⟩;obtain⟨u,J,a,f,k,l,g4,m,p,q,r,s,g,h,i,j⟩:=iE d rfl;rw[<-d];clear d;have aP:=Hm u;clear u;have t:=lt_of_cell a;go_wp2;all_goals(try(exfalso;go_light;simp_all;done));go_ret;exact⟨rfl,aP.o⟩
 ·go_enter Tryz.func113,Tryz.ntmps113;go_wp2_with fail;obtain⟨W1,d⟩: ∃W,W=w.alloc (.cells #[.string x.name,.string x.table,.int .i64 x.kind,.slice A n c,.string x.other,.slice A' n' c',.int .i64 x.low,.int .i64 x.high,.slice A'' n'' c'',.int .i64 x.ln,.int .i64 x.ld,.int .i64 x.mn,.int .i64 x.md,.int .i64 x.policy] 48):=⟨_,rfl⟩;obtain⟨u,J,a,f,k,l,g4,m,p,q,r,s,g,h,i,j⟩:=iE d rfl;rw[<-d];clear d;have aQ:=Hm u;clear u;have t:=lt_of_cell a;go_wp2;all_goals(try(exfalso;go_light;simp_all;done));go_ret;exact⟨rfl,aQ.o⟩
 ·go_enter Tryz.func113,Tryz.ntmps113;have HN:=Hm Y;clear Y;have al:=Hm Z;clear Z;have HQ:=Hm hq;clear hq;have HW:=Hm hw;clear hw;have H:=Hm F;clear F;have HO:=Hm ho;clear ho;have HZ:=Hm hz;clear hz;go_wp2_with fail;obtain⟨W1,d⟩: ∃W,W=w.alloc (.cells #[.string x.name,.string x.table,.int .i64 x.kind,.slice A n c,.string x.other,.slice A' n' c',.int .i64 x.low,.int .i64 x.high,.slice A'' n'' c'',.int .i64 x.ln,.int .i64 x.ld,.int .i64 x.mn,.int .i64 x.md,.int .i64 x.policy] 48):=⟨_,rfl⟩;obtain⟨u,J,a,f,k,l,g4,m,p,q,r,s,g,h,i,j⟩:=iE d rfl;rw[<-d];clear d;have I:=Hm u;clear u;have t:=lt_of_cell a;go_wp2_with fail;refine(qY _ O M c1 cols (H.o.below I.o)).mono ?_;rintro e w8 ⟨rfl,aK⟩;have N:=lq a f k l g4 m p q r s g h i j;have ag:=Hm aK;clear aK;rw[av.o];by_cases L:z=0;rotate_left
  ·have q0:(z != 0)=true:=by simpa using L
   obtain rfl:R=z:=by rw[v.o,if_pos L]
   obtain⟨t,a,f,k,l,g4,m,p,q,r,s,g,h,i,j⟩:=N.o _ ag.o;go_wp2;all_goals(try(exfalso;go_light;simp_all;done));go_ret;exact⟨rfl,(fH I.o ag.o)⟩
  subst L;obtain⟨t,a,f,k,l,g4,m,p,q,r,s,g,h,i,j⟩:=N.o _ ag.o;go_wp2_with fail;refine(am.o _).mono ?_;rintro e aV ⟨rfl,aB⟩;have P:=Hm (fH ag.o aB);clear aB;cases UC
  ·obtain⟨t,a,f,k,l,g4,m,p,q,r,s,g,h,i,j⟩:=N.o _ P.o;go_wp2_with fail;have aa:=Hm (fH I.o P.o);refine(ae.o _ (HN.o.below aa.o) (al.o.below aa.o) (H.o.below aa.o) (HO.o.below aa.o)).mono ?_;rintro e aW ⟨rfl,aC⟩;have az:=Hm (fH P.o aC);clear aC;obtain rfl:R=CK:=by rw[v.o];simp
   obtain⟨t,a,f,k,l,g4,m,p,q,r,s,g,h,i,j⟩:=N.o _ az.o;go_wp2;all_goals(try(exfalso;go_light;simp_all;done));go_ret;exact⟨rfl,(fH I.o az.o)⟩
  obtain⟨t,a,f,k,l,g4,m,p,q,r,s,g,h,i,j⟩:=N.o _ P.o;go_wp2_with fail;have ab:=Hm (fH I.o P.o);refine(af.o _ (HQ.o.below ab.o) (HW.o.below ab.o) (H.o.below ab.o) (HZ.o.below ab.o)).mono ?_;rintro e aX ⟨rfl,aD⟩;have ah:=Hm (fH P.o aD);clear aD;by_cases K:CD=0;rotate_left
  ·have q0:(CD != 0)=true:=by simpa using K
   obtain rfl:R=CD:=by rw[v.o];simp[K]
   obtain⟨t,a,f,k,l,g4,m,p,q,r,s,g,h,i,j⟩:=N.o _ ah.o;go_wp2;all_goals(try(exfalso;go_light;simp_all;done));go_ret;exact⟨rfl,(fH I.o ah.o)⟩
  subst K;by_cases D:x.kind=5;rotate_left
  ·have q5:(x.kind==5)=false:=by simpa using D
   obtain rfl:R=0:=by rw[v.o];simp[D]
   obtain⟨t,a,f,k,l,g4,m,p,q,r,s,g,h,i,j⟩:=N.o _ ah.o;go_wp2;all_goals(try(exfalso;go_light;simp_all;done));go_ret;exact⟨rfl,(fH I.o ah.o)⟩
  rw[D]at d6;exact absurd d6 (by decide)
 ·go_enter Tryz.func113,Tryz.ntmps113;have HN:=Hm Y;clear Y;have al:=Hm Z;clear Z;have HQ:=Hm hq;clear hq;have HW:=Hm hw;clear hw;have H:=Hm F;clear F;have HO:=Hm ho;clear ho;have HZ:=Hm hz;clear hz;go_wp2_with fail;obtain⟨W1,d⟩: ∃W,W=w.alloc (.cells #[.string x.name,.string x.table,.int .i64 x.kind,.slice A n c,.string x.other,.slice A' n' c',.int .i64 x.low,.int .i64 x.high,.slice A'' n'' c'',.int .i64 x.ln,.int .i64 x.ld,.int .i64 x.mn,.int .i64 x.md,.int .i64 x.policy] 48):=⟨_,rfl⟩;obtain⟨u,J,a,f,k,l,g4,m,p,q,r,s,g,h,i,j⟩:=iE d rfl;rw[<-d];clear d;have B:=Hm u;clear u;have t:=lt_of_cell a;go_wp2_with fail;refine(qY _ O M c1 cols (H.o.below B.o)).mono ?_;rintro e aY ⟨rfl,aE⟩;have y:=lq a f k l g4 m p q r s g h i j;have ai:=Hm aE;clear aE;rw[av.o];by_cases L:z=0;rotate_left
  ·have q0:(z != 0)=true:=by simpa using L
   obtain rfl:R=z:=by rw[v.o,if_pos L]
   obtain⟨t,a,f,k,l,g4,m,p,q,r,s,g,h,i,j⟩:=y.o _ ai.o;go_wp2;all_goals(try(exfalso;go_light;simp_all;done));go_ret;exact⟨rfl,(fH B.o ai.o)⟩
  subst L;obtain⟨t,a,f,k,l,g4,m,p,q,r,s,g,h,i,j⟩:=y.o _ ai.o;go_wp2_with fail;refine(am.o _).mono ?_;rintro e aZ ⟨rfl,aF⟩;have Q:=Hm (fH ai.o aF);clear aF;cases UC
  ·obtain⟨t,a,f,k,l,g4,m,p,q,r,s,g,h,i,j⟩:=y.o _ Q.o;go_wp2_with fail;have ac:=Hm (fH B.o Q.o);refine(ae.o _ (HN.o.below ac.o) (al.o.below ac.o) (H.o.below ac.o) (HO.o.below ac.o)).mono ?_;rintro e a0 ⟨rfl,aG⟩;have aA:=Hm (fH Q.o aG);clear aG;obtain rfl:R=CK:=by rw[v.o];simp
   obtain⟨t,a,f,k,l,g4,m,p,q,r,s,g,h,i,j⟩:=y.o _ aA.o;go_wp2;all_goals(try(exfalso;go_light;simp_all;done));go_ret;exact⟨rfl,(fH B.o aA.o)⟩
  obtain⟨t,a,f,k,l,g4,m,p,q,r,s,g,h,i,j⟩:=y.o _ Q.o;go_wp2_with fail;have ad:=Hm (fH B.o Q.o);refine(af.o _ (HQ.o.below ad.o) (HW.o.below ad.o) (H.o.below ad.o) (HZ.o.below ad.o)).mono ?_;rintro e a8 ⟨rfl,aH⟩;have T:=Hm (fH Q.o aH);clear aH;by_cases K:CD=0;rotate_left
  ·have q0:(CD != 0)=true:=by simpa using K
   obtain rfl:R=CD:=by rw[v.o];simp[K]
   obtain⟨t,a,f,k,l,g4,m,p,q,r,s,g,h,i,j⟩:=y.o _ T.o;go_wp2;all_goals(try(exfalso;go_light;simp_all;done));go_ret;exact⟨rfl,(fH B.o T.o)⟩
  subst K;by_cases D:x.kind=5;rotate_left
  ·have q5:(x.kind==5)=false:=by simpa using D
   obtain rfl:R=0:=by rw[v.o];simp[D]
   obtain⟨t,a,f,k,l,g4,m,p,q,r,s,g,h,i,j⟩:=y.o _ T.o;go_wp2;all_goals(try(exfalso;go_light;simp_all;done));go_ret;exact⟨rfl,(fH B.o T.o)⟩
  have aw:=Hm D;have q5:(x.kind==5)=true:=by simpa using D
  clear D;obtain⟨t,a,f,k,l,g4,m,p,q,r,s,g,h,i,j⟩:=y.o _ T.o;go_wp2_with fail;refine(ax.o _).mono ?_;rintro e a9 ⟨rfl,aI⟩;have aj:=Hm (fH T.o aI);clear aI;cases S1
  ·obtain rfl:R=1:=by rw[v.o];simp[aw.o]
   obtain⟨t,a,f,k,l,g4,m,p,q,r,s,g,h,i,j⟩:=y.o _ aj.o;go_wp2;all_goals(try(exfalso;go_light;simp_all;done));go_ret;exact⟨rfl,(fH B.o aj.o)⟩
  obtain⟨t,a,f,k,l,g4,m,p,q,r,s,g,h,i,j⟩:=y.o _ aj.o;go_wp2_with fail;refine(ay.o _).mono ?_;rintro e ba ⟨rfl,aJ⟩;have ak:=Hm (fH aj.o aJ);clear aJ;cases S2
  ·obtain rfl:R=1:=by rw[v.o];simp[aw.o]
   obtain⟨t,a,f,k,l,g4,m,p,q,r,s,g,h,i,j⟩:=y.o _ ak.o;go_wp2;all_goals(try(exfalso;go_light;simp_all;done));go_ret;exact⟨rfl,(fH B.o ak.o)⟩
  ·obtain rfl:R=0:=by rw[v.o];simp
   obtain⟨t,a,f,k,l,g4,m,p,q,r,s,g,h,i,j⟩:=y.o _ ak.o;go_wp2;all_goals(try(exfalso;go_light;simp_all;done));go_ret;exact⟨rfl,(fH B.o ak.o)⟩
theorem Cu (w:World)(x:Chk)(A:Option Addr)(n c:Nat)(T:In w A n c x.cols)(A':Option Addr)(n' c':Nat)(V:In w A' n' c' x.ocols)(A'':Option Addr)(n'' c'':Nat)(Y:In w A'' n'' c'' x.cond)(hw:Words w)(rn:ByteArray)(M:Option Addr)(L c1:Nat)(cols:List Col)(d:In w M L c1 cols)(Ak:Option Addr)(nk ck:Nat)(A3:Option Addr)(n3 c3:Nat)(rows:List Ent)(K:In w A3 n3 c3 rows)(on:ByteArray)(A2:Option Addr)(n2 c2:Nat)(b:List Col)(X:In w A2 n2 c2 b)(Al:Option Addr)(nl cl:Nat)(Q:Option Addr)(n4 c4:Nat)(B:List Ent)(ao:In w Q n4 c4 B)(A5:Option Addr)(n5 c5:Nat)(zs:List Zone)(Z:In w A5 n5 c5 zs)(ar:n<=4096)(au:n'<=4096)(av:L<=4096)(aw:n2<=4096):
  Calls Tryz.prog 84 #[.agg (fZ x A n c A' n' c' A'' n'' c'').toArray,.agg #[.string rn,.slice M L c1,.slice Ak nk ck,.slice A3 n3 c3],.agg #[.string on,.slice A2 n2 c2,.slice Al nl cl,.slice Q n4 c4],.slice A5 n5 c5] w
   λe w'=>e=.returned (.int .i64 (gP x cols b rows B zs))/\Below w.heap.size w w':=by
 have HV:=Hm λW T V Y hw d X Z=>yg W x A n c T A' n' c' V A'' n'' c'' Y hw M L c1 cols d A2 n2 c2 b X A5 n5 c5 zs Z ar au av aw;have HU:=Hm λW=>uP W x.kind;have af:=Hm λW d K=>ve W rn M L c1 cols d Ak nk ck A3 n3 c3 rows K;have ag:=Hm λW d K=>ve W on A2 n2 c2 b d Al nl cl Q n4 c4 B K;have N:=Hm (show gP x cols b rows B zs=if gQ x cols b zs≠0 then gQ x cols b zs else if iL cols rows≠0 then iL cols rows else if kI x.kind=true then iL b B else 0 from rfl);obtain⟨R,hR⟩: ∃R,gP x cols b rows B zs=R:=⟨_,rfl⟩;obtain⟨E1,aa⟩: ∃R,gQ x cols b zs=R:=⟨_,rfl⟩;obtain⟨E2,ab⟩: ∃R,iL cols rows=R:=⟨_,rfl⟩;obtain⟨E3,ac⟩: ∃R,iL b B=R:=⟨_,rfl⟩;obtain⟨U,hU⟩: ∃R,kI x.kind=R:=⟨_,rfl⟩;rw[hR,aa,ab,ac,hU]at N;rw[aa]at HV;rw[ab]at af;rw[ac]at ag;rw[hU]at HU;rw[hR];clear hR aa ab ac hU;simp only[fZ]at HV⊢;go_enter Tryz.func84,Tryz.ntmps84;have HN:=Hm T;clear T;have ap:=Hm V;clear V;have HQ:=Hm Y;clear Y;have HW:=Hm hw;clear hw;have HC:=Hm d;clear d;have HO:=Hm X;clear X;have HZ:=Hm Z;clear Z;have HR:=Hm K;clear K;have aq:=Hm ao;clear ao;go_wp2_with fail;obtain⟨W3,ai,ax,an,f⟩:=jN w x A n c A' n' c' A'' n'' c'' rn M L c1 Ak nk ck A3 n3 c3 on A2 n2 c2 Al nl cl Q n4 c4;rw[<-ai];clear ai;have a:=Hm an;clear an;obtain⟨⟨i,j,k,r,s,g4,t,u,v,y,z,l,m,p,q⟩,⟨g,C,D,E,F⟩,h,G,H,I,J⟩:=f.o _ (Below.refl _ _);go_wp2_with fail;refine(HV.o _ (HN.o.below a.o) (ap.o.below a.o) (HQ.o.below a.o) (HW.o.below a.o) (HC.o.below a.o) (HO.o.below a.o) (HZ.o.below a.o)).mono ?_;rintro e ay ⟨rfl,aj⟩;have O:=Hm aj;clear aj;by_cases h1:E1=0;rotate_left
 ·have q1:(E1==0)=false:=by simpa using h1
  obtain rfl:R=E1:=by rw[N.o,if_pos h1]
  obtain⟨⟨i,j,k,r,s,g4,t,u,v,y,z,l,m,p,q⟩,⟨g,C,D,E,F⟩,h,G,H,I,J⟩:=f.o _ O.o;go_wp2;all_goals(try(exfalso;go_light;simp_all;done));go_ret;exact⟨rfl,(fH a.o O.o)⟩
 subst h1;obtain⟨⟨i,j,k,r,s,g4,t,u,v,y,z,l,m,p,q⟩,⟨g,C,D,E,F⟩,h,G,H,I,J⟩:=f.o _ O.o;go_wp2_with fail;have ad:=Hm (fH a.o O.o);refine(af.o _ (HC.o.below ad.o) (HR.o.below ad.o)).mono ?_;rintro e az ⟨rfl,ak⟩;have S:=Hm (fH O.o ak);clear ak;by_cases h2:E2=0;rotate_left
 ·have q2:(E2==0)=false:=by simpa using h2
  obtain rfl:R=E2:=by rw[N.o];simp[h2]
  obtain⟨⟨i,j,k,r,s,g4,t,u,v,y,z,l,m,p,q⟩,⟨g,C,D,E,F⟩,h,G,H,I,J⟩:=f.o _ S.o;go_wp2;all_goals(try(exfalso;go_light;simp_all;done));go_ret;exact⟨rfl,(fH a.o S.o)⟩
 subst h2;obtain⟨⟨i,j,k,r,s,g4,t,u,v,y,z,l,m,p,q⟩,⟨g,C,D,E,F⟩,h,G,H,I,J⟩:=f.o _ S.o;go_wp2_with fail;refine(HU.o _).mono ?_;rintro e aA ⟨rfl,al⟩;have P:=Hm (fH S.o al);clear al;cases U
 ·obtain rfl:R=0:=by rw[N.o];simp
  obtain⟨⟨i,j,k,r,s,g4,t,u,v,y,z,l,m,p,q⟩,⟨g,C,D,E,F⟩,h,G,H,I,J⟩:=f.o _ P.o;go_wp2;all_goals(try(exfalso;go_light;simp_all;done));go_ret;exact⟨rfl,(fH a.o P.o)⟩
 ·obtain rfl:R=E3:=by rw[N.o];simp
  obtain⟨⟨i,j,k,r,s,g4,t,u,v,y,z,l,m,p,q⟩,⟨g,C,D,E,F⟩,h,G,H,I,J⟩:=f.o _ P.o;go_wp2_with fail;have ae:=Hm (fH a.o P.o);refine(ag.o _ (HO.o.below ae.o) (aq.o.below ae.o)).mono ?_;rintro e aB ⟨rfl,am⟩;have ah:=Hm (fH P.o am);clear am;obtain⟨⟨i,j,k,r,s,g4,t,u,v,y,z,l,m,p,q⟩,⟨g,C,D,E,F⟩,h,G,H,I,J⟩:=f.o _ ah.o;go_wp2;all_goals(try(exfalso;go_light;simp_all;done));go_ret;exact⟨rfl,(fH a.o ah.o)⟩
end Go.Proofs.YtopjjlmfilgngaaGreatDoor
