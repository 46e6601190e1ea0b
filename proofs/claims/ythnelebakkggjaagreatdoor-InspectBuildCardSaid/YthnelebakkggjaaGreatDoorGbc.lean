/-
  check.Validate, check.checkAll. (Printed by gen_chka.py.) The closures of check.violated; check.holds.
-/
import Derived.Test.YthnelebakkggjaaGreatDoorChkV
import Derived.Test.YthnelebakkggjaaGreatDoorEvA
namespace Go.Proofs.YthnelebakkggjaaGreatDoor
set_option maxHeartbeats 4000000
set_option maxRecDepth 100000
open Go.RowKit
set_option linter.unusedSimpArgs false
set_option linter.unusedVariables false
theorem kV (x:Chk)(cols a:List Col)(zs:List Zone)(b:¬(x.kind<0\/6<x.kind\/x.policy<0\/2<x.policy))(c:¬(x.policy=0/\(x.kind=5\/x.kind=6))):
  gF x cols a zs=if fq cols≠0 then fq cols else if l8 x.kind=false then nA x cols a else if ku x cols zs≠0 then ku x cols zs else if x.kind=5/\(iA x.ln x.ld&&iA x.mn x.md)=false then 1 else 0:=by
 rw[gF,if_neg b,if_neg c]
theorem xN (w:World)(x:Chk)(A:Option Addr)(n c:Nat)(Q:In w A n c x.cols)(A':Option Addr)(n' c':Nat)(T:In w A' n' c' x.ocols)(A'':Option Addr)(n'' c'':Nat)(X:In w A'' n'' c'' x.cond)(hw:Words w)(K:Option Addr)(I c1:Nat)(cols:List Col)(y:In w K I c1 cols)(A2:Option Addr)(n2 c2:Nat)(z:List Col)(V:In w A2 n2 c2 z)(A5:Option Addr)(n5 c5:Nat)(zs:List Zone)(Y:In w A5 n5 c5 zs)(aR:n<=4096)(aS:n'<=4096)(aT:I<=4096)(aU:n2<=4096):
  Calls Tryz.prog 55 #[.agg (eP x A n c A' n' c' A'' n'' c'').toArray,.slice K I c1,.slice A2 n2 c2,.slice A5 n5 c5] w λe w'=>e=.returned (.int .i64 (gF x cols z zs))/\Below w.heap.size w w':=by
 have ae:=Hm λW Q T y V=>wI W x A n c Q A' n' c' T A'' n'' c'' K I c1 cols y A2 n2 c2 z V aR aS aT aU;have af:=Hm λW X hw y Y=>zS W x A n c A' n' c' A'' n'' c'' X hw K I c1 cols y A5 n5 c5 zs Y;have am:=Hm λW=>Il W x.kind;have ax:=Hm λW=>Bl W x.ln x.ld;have ay:=Hm λW=>Bl W x.mn x.md;have Z:=Hm (kV x cols z zs);have v:=Hm (show gF x cols z zs=if x.kind<0\/6<x.kind\/x.policy<0\/2<x.policy then 1 else if x.policy=0/\(x.kind=5\/x.kind=6) then 7 else gF x cols z zs from by
  by_cases h1:x.kind<0\/6<x.kind\/x.policy<0\/2<x.policy
  ·rw[if_pos h1,gF,if_pos h1]
  ·rw[if_neg h1];by_cases h2:x.policy=0/\(x.kind=5\/x.kind=6)
   ·rw[if_pos h2,gF,if_neg h1,if_pos h2]
   ·rw[if_neg h2])
 obtain⟨R,hR⟩: ∃R,gF x cols z zs=R:=⟨_,rfl⟩;rw[hR]at v Z;rw[hR];obtain⟨s,ao⟩: ∃C,fq cols=C:=⟨_,rfl⟩;obtain⟨CK,ap⟩: ∃C,nA x cols z=C:=⟨_,rfl⟩;obtain⟨CD,an⟩: ∃C,ku x cols zs=C:=⟨_,rfl⟩;obtain⟨UC,au⟩: ∃U,l8 x.kind=U:=⟨_,rfl⟩;obtain⟨S1,aq⟩: ∃S,iA x.ln x.ld=S:=⟨_,rfl⟩;obtain⟨S2,ar⟩: ∃S,iA x.mn x.md=S:=⟨_,rfl⟩;rw[ao,ap,an,au,aq,ar]at Z;rw[ap]at ae;rw[an]at af;rw[au]at am;rw[aq]at ax;rw[ar]at ay;have av:=Hm ao;clear hR ao ap an au aq ar;have hA:(decide (x.kind<0)=true/\R=1)\/(decide (x.kind<0)=false/\decide (6<x.kind)=true/\R=1)\/(decide (x.kind<0)=false/\decide (6<x.kind)=false/\decide (x.policy<0)=true/\R=1)
   \/(decide (x.kind<0)=false/\decide (6<x.kind)=false/\decide (x.policy<0)=false/\decide (2<x.policy)=true/\R=1)
   \/(decide (x.kind<0)=false/\decide (6<x.kind)=false/\decide (x.policy<0)=false/\decide (2<x.policy)=false/\((((x.policy==0)=true/\(x.kind==5)=true/\R=7)\/((x.policy==0)=true/\(x.kind==5)=false/\(x.kind==6)=true/\R=7)
    \/((x.policy==0)=true/\(x.kind==5)=false/\(x.kind==6)=false/\Hl (R=if s≠0 then s else if UC=false then CK else if CD≠0 then CD else if x.kind=5/\(S1&&S2)=false then 1 else 0))\/((x.policy==0)=false/\Hl (R=if s≠0 then s else if UC=false then CK else if CD≠0 then CD else if x.kind=5/\(S1&&S2)=false then 1 else 0))))):=by
  by_cases O:x.kind<0
  ·exact .inl ⟨by simpa using O,by rw[v.o,if_pos (.inl O)]⟩
  by_cases a2:6<x.kind
  ·exact .inr (.inl ⟨by simpa using O,by simpa using a2,by rw[v.o,if_pos (.inr (.inl a2))]⟩)
  by_cases a3:x.policy<0
  ·exact .inr (.inr (.inl ⟨by simpa using O,by simpa using a2,by simpa using a3,by rw[v.o,if_pos (.inr (.inr (.inl a3)))]⟩))
  by_cases a4:2<x.policy
  ·exact .inr (.inr (.inr (.inl ⟨by simpa using O,by simpa using a2,by simpa using a3,by simpa using a4,by rw[v.o,if_pos (.inr (.inr (.inr a4)))]⟩)))
  have b:¬(x.kind<0\/6<x.kind\/x.policy<0\/2<x.policy):=by omega
  refine .inr (.inr (.inr (.inr ⟨by simpa using O,by simpa using a2,by simpa using a3,by simpa using a4,?_⟩)));by_cases P:x.policy=0
  ·by_cases a6:x.kind=5
   ·exact .inl ⟨by simpa using P,by simpa using a6,by rw[v.o,if_neg b,if_pos ⟨P,.inl a6⟩]⟩
   by_cases a7:x.kind=6
   ·exact .inr (.inl ⟨by simpa using P,by simpa using a6,by simpa using a7,by rw[v.o,if_neg b,if_pos ⟨P,.inr a7⟩]⟩)
   ·exact .inr (.inr (.inl ⟨by simpa using P,by simpa using a6,by simpa using a7,Hm (Z.o b Ho)⟩))
  ·exact .inr (.inr (.inr ⟨by simpa using P,Hm (Z.o b Ho)⟩))
 clear v Z;simp only[eP]at ae af⊢;rcases hA with ⟨d1,rfl⟩|⟨d1,d2,rfl⟩|⟨d1,d2,d3,rfl⟩|⟨d1,d2,d3,d4,rfl⟩|⟨d1,d2,d3,d4,⟨d5,d6,rfl⟩|⟨d5,d6,d7,rfl⟩|⟨d5,d6,d7,q⟩|⟨d5,q⟩⟩
 ·go_enter Tryz.func55,Tryz.ntmps55;go_wp2_with fail;obtain⟨F,d⟩: ∃W,W=w.alloc (.cells #[.string x.name,.string x.table,.int .i64 x.kind,.slice A n c,.string x.other,.slice A' n' c',.int .i64 x.low,.int .i64 x.high,.slice A'' n'' c'',.int .i64 x.ln,.int .i64 x.ld,.int .i64 x.mn,.int .i64 x.md,.int .i64 x.policy] 27):=⟨_,rfl⟩;obtain⟨p,E,a,g1,g2,g3,g4,g5,g6,j,k,l,f,g,h,i⟩:=gZ d rfl;rw[<-d];clear d;have aL:=Hm p;clear p;have m:=lt_of_cell a;go_wp2;all_goals(try(exfalso;go_light;simp_all;done));go_ret;exact⟨rfl,aL.o⟩
 ·go_enter Tryz.func55,Tryz.ntmps55;go_wp2_with fail;obtain⟨F,d⟩: ∃W,W=w.alloc (.cells #[.string x.name,.string x.table,.int .i64 x.kind,.slice A n c,.string x.other,.slice A' n' c',.int .i64 x.low,.int .i64 x.high,.slice A'' n'' c'',.int .i64 x.ln,.int .i64 x.ld,.int .i64 x.mn,.int .i64 x.md,.int .i64 x.policy] 27):=⟨_,rfl⟩;obtain⟨p,E,a,g1,g2,g3,g4,g5,g6,j,k,l,f,g,h,i⟩:=gZ d rfl;rw[<-d];clear d;have aM:=Hm p;clear p;have m:=lt_of_cell a;go_wp2;all_goals(try(exfalso;go_light;simp_all;done));go_ret;exact⟨rfl,aM.o⟩
 ·go_enter Tryz.func55,Tryz.ntmps55;go_wp2_with fail;obtain⟨F,d⟩: ∃W,W=w.alloc (.cells #[.string x.name,.string x.table,.int .i64 x.kind,.slice A n c,.string x.other,.slice A' n' c',.int .i64 x.low,.int .i64 x.high,.slice A'' n'' c'',.int .i64 x.ln,.int .i64 x.ld,.int .i64 x.mn,.int .i64 x.md,.int .i64 x.policy] 27):=⟨_,rfl⟩;obtain⟨p,E,a,g1,g2,g3,g4,g5,g6,j,k,l,f,g,h,i⟩:=gZ d rfl;rw[<-d];clear d;have aN:=Hm p;clear p;have m:=lt_of_cell a;go_wp2;all_goals(try(exfalso;go_light;simp_all;done));go_ret;exact⟨rfl,aN.o⟩
 ·go_enter Tryz.func55,Tryz.ntmps55;go_wp2_with fail;obtain⟨F,d⟩: ∃W,W=w.alloc (.cells #[.string x.name,.string x.table,.int .i64 x.kind,.slice A n c,.string x.other,.slice A' n' c',.int .i64 x.low,.int .i64 x.high,.slice A'' n'' c'',.int .i64 x.ln,.int .i64 x.ld,.int .i64 x.mn,.int .i64 x.md,.int .i64 x.policy] 27):=⟨_,rfl⟩;obtain⟨p,E,a,g1,g2,g3,g4,g5,g6,j,k,l,f,g,h,i⟩:=gZ d rfl;rw[<-d];clear d;have aO:=Hm p;clear p;have m:=lt_of_cell a;go_wp2;all_goals(try(exfalso;go_light;simp_all;done));go_ret;exact⟨rfl,aO.o⟩
 ·go_enter Tryz.func55,Tryz.ntmps55;go_wp2_with fail;obtain⟨F,d⟩: ∃W,W=w.alloc (.cells #[.string x.name,.string x.table,.int .i64 x.kind,.slice A n c,.string x.other,.slice A' n' c',.int .i64 x.low,.int .i64 x.high,.slice A'' n'' c'',.int .i64 x.ln,.int .i64 x.ld,.int .i64 x.mn,.int .i64 x.md,.int .i64 x.policy] 27):=⟨_,rfl⟩;obtain⟨p,E,a,g1,g2,g3,g4,g5,g6,j,k,l,f,g,h,i⟩:=gZ d rfl;rw[<-d];clear d;have aP:=Hm p;clear p;have m:=lt_of_cell a;go_wp2;all_goals(try(exfalso;go_light;simp_all;done));go_ret;exact⟨rfl,aP.o⟩
 ·go_enter Tryz.func55,Tryz.ntmps55;go_wp2_with fail;obtain⟨F,d⟩: ∃W,W=w.alloc (.cells #[.string x.name,.string x.table,.int .i64 x.kind,.slice A n c,.string x.other,.slice A' n' c',.int .i64 x.low,.int .i64 x.high,.slice A'' n'' c'',.int .i64 x.ln,.int .i64 x.ld,.int .i64 x.mn,.int .i64 x.md,.int .i64 x.policy] 27):=⟨_,rfl⟩;obtain⟨p,E,a,g1,g2,g3,g4,g5,g6,j,k,l,f,g,h,i⟩:=gZ d rfl;rw[<-d];clear d;have aQ:=Hm p;clear p;have m:=lt_of_cell a;go_wp2;all_goals(try(exfalso;go_light;simp_all;done));go_ret;exact⟨rfl,aQ.o⟩
 ·go_enter Tryz.func55,Tryz.ntmps55;have HN:=Hm Q;clear Q;have al:=Hm T;clear T;have HQ:=Hm X;clear X;have HW:=Hm hw;clear hw;have B:=Hm y;clear y;have HO:=Hm V;clear V;have HZ:=Hm Y;clear Y;go_wp2_with fail;obtain⟨F,d⟩: ∃W,W=w.alloc (.cells #[.string x.name,.string x.table,.int .i64 x.kind,.slice A n c,.string x.other,.slice A' n' c',.int .i64 x.low,.int .i64 x.high,.slice A'' n'' c'',.int .i64 x.ln,.int .i64 x.ld,.int .i64 x.mn,.int .i64 x.md,.int .i64 x.policy] 27):=⟨_,rfl⟩;obtain⟨p,E,a,g1,g2,g3,g4,g5,g6,j,k,l,f,g,h,i⟩:=gZ d rfl;rw[<-d];clear d;have D:=Hm p;clear p;have m:=lt_of_cell a;go_wp2_with fail;refine(qX _ K I c1 cols (B.o.b D.o)).mono ?_;rintro e w8 ⟨rfl,aK⟩;have J:=lN a g1 g2 g3 g4 g5 g6 j k l f g h i;have ag:=Hm aK;clear aK;rw[av.o];by_cases H:s=0;rotate_left
  ·have q0:(s != 0)=true:=by simpa using H
   obtain rfl:R=s:=by rw[q.o,if_pos H]
   obtain⟨m,a,g1,g2,g3,g4,g5,g6,j,k,l,f,g,h,i⟩:=J.o _ ag.o;go_wp2;all_goals(try(exfalso;go_light;simp_all;done));go_ret;exact⟨rfl,(eu D.o ag.o)⟩
  subst H;obtain⟨m,a,g1,g2,g3,g4,g5,g6,j,k,l,f,g,h,i⟩:=J.o _ ag.o;go_wp2_with fail;refine(am.o _).mono ?_;rintro e aV ⟨rfl,aB⟩;have L:=Hm (eu ag.o aB);clear aB;cases UC
  ·obtain⟨m,a,g1,g2,g3,g4,g5,g6,j,k,l,f,g,h,i⟩:=J.o _ L.o;go_wp2_with fail;have aa:=Hm (eu D.o L.o);refine(ae.o _ (HN.o.b aa.o) (al.o.b aa.o) (B.o.b aa.o) (HO.o.b aa.o)).mono ?_;rintro e aW ⟨rfl,aC⟩;have az:=Hm (eu L.o aC);clear aC;obtain rfl:R=CK:=by rw[q.o];simp
   obtain⟨m,a,g1,g2,g3,g4,g5,g6,j,k,l,f,g,h,i⟩:=J.o _ az.o;go_wp2;all_goals(try(exfalso;go_light;simp_all;done));go_ret;exact⟨rfl,(eu D.o az.o)⟩
  obtain⟨m,a,g1,g2,g3,g4,g5,g6,j,k,l,f,g,h,i⟩:=J.o _ L.o;go_wp2_with fail;have ab:=Hm (eu D.o L.o);refine(af.o _ (HQ.o.b ab.o) (HW.o.b ab.o) (B.o.b ab.o) (HZ.o.b ab.o)).mono ?_;rintro e aX ⟨rfl,aD⟩;have ah:=Hm (eu L.o aD);clear aD;by_cases G:CD=0;rotate_left
  ·have q0:(CD != 0)=true:=by simpa using G
   obtain rfl:R=CD:=by rw[q.o];simp[G]
   obtain⟨m,a,g1,g2,g3,g4,g5,g6,j,k,l,f,g,h,i⟩:=J.o _ ah.o;go_wp2;all_goals(try(exfalso;go_light;simp_all;done));go_ret;exact⟨rfl,(eu D.o ah.o)⟩
  subst G;by_cases u:x.kind=5;rotate_left
  ·have q5:(x.kind==5)=false:=by simpa using u
   obtain rfl:R=0:=by rw[q.o];simp[u]
   obtain⟨m,a,g1,g2,g3,g4,g5,g6,j,k,l,f,g,h,i⟩:=J.o _ ah.o;go_wp2;all_goals(try(exfalso;go_light;simp_all;done));go_ret;exact⟨rfl,(eu D.o ah.o)⟩
  rw[u]at d6;exact absurd d6 (by decide)
 ·go_enter Tryz.func55,Tryz.ntmps55;have HN:=Hm Q;clear Q;have al:=Hm T;clear T;have HQ:=Hm X;clear X;have HW:=Hm hw;clear hw;have B:=Hm y;clear y;have HO:=Hm V;clear V;have HZ:=Hm Y;clear Y;go_wp2_with fail;obtain⟨F,d⟩: ∃W,W=w.alloc (.cells #[.string x.name,.string x.table,.int .i64 x.kind,.slice A n c,.string x.other,.slice A' n' c',.int .i64 x.low,.int .i64 x.high,.slice A'' n'' c'',.int .i64 x.ln,.int .i64 x.ld,.int .i64 x.mn,.int .i64 x.md,.int .i64 x.policy] 27):=⟨_,rfl⟩;obtain⟨p,E,a,g1,g2,g3,g4,g5,g6,j,k,l,f,g,h,i⟩:=gZ d rfl;rw[<-d];clear d;have t:=Hm p;clear p;have m:=lt_of_cell a;go_wp2_with fail;refine(qX _ K I c1 cols (B.o.b t.o)).mono ?_;rintro e aY ⟨rfl,aE⟩;have r:=lN a g1 g2 g3 g4 g5 g6 j k l f g h i;have ai:=Hm aE;clear aE;rw[av.o];by_cases H:s=0;rotate_left
  ·have q0:(s != 0)=true:=by simpa using H
   obtain rfl:R=s:=by rw[q.o,if_pos H]
   obtain⟨m,a,g1,g2,g3,g4,g5,g6,j,k,l,f,g,h,i⟩:=r.o _ ai.o;go_wp2;all_goals(try(exfalso;go_light;simp_all;done));go_ret;exact⟨rfl,(eu t.o ai.o)⟩
  subst H;obtain⟨m,a,g1,g2,g3,g4,g5,g6,j,k,l,f,g,h,i⟩:=r.o _ ai.o;go_wp2_with fail;refine(am.o _).mono ?_;rintro e aZ ⟨rfl,aF⟩;have M:=Hm (eu ai.o aF);clear aF;cases UC
  ·obtain⟨m,a,g1,g2,g3,g4,g5,g6,j,k,l,f,g,h,i⟩:=r.o _ M.o;go_wp2_with fail;have ac:=Hm (eu t.o M.o);refine(ae.o _ (HN.o.b ac.o) (al.o.b ac.o) (B.o.b ac.o) (HO.o.b ac.o)).mono ?_;rintro e a0 ⟨rfl,aG⟩;have aA:=Hm (eu M.o aG);clear aG;obtain rfl:R=CK:=by rw[q.o];simp
   obtain⟨m,a,g1,g2,g3,g4,g5,g6,j,k,l,f,g,h,i⟩:=r.o _ aA.o;go_wp2;all_goals(try(exfalso;go_light;simp_all;done));go_ret;exact⟨rfl,(eu t.o aA.o)⟩
  obtain⟨m,a,g1,g2,g3,g4,g5,g6,j,k,l,f,g,h,i⟩:=r.o _ M.o;go_wp2_with fail;have ad:=Hm (eu t.o M.o);refine(af.o _ (HQ.o.b ad.o) (HW.o.b ad.o) (B.o.b ad.o) (HZ.o.b ad.o)).mono ?_;rintro e a8 ⟨rfl,aH⟩;have N:=Hm (eu M.o aH);clear aH;by_cases G:CD=0;rotate_left
  ·have q0:(CD != 0)=true:=by simpa using G
   obtain rfl:R=CD:=by rw[q.o];simp[G]
   obtain⟨m,a,g1,g2,g3,g4,g5,g6,j,k,l,f,g,h,i⟩:=r.o _ N.o;go_wp2;all_goals(try(exfalso;go_light;simp_all;done));go_ret;exact⟨rfl,(eu t.o N.o)⟩
  subst G;by_cases u:x.kind=5;rotate_left
  ·have q5:(x.kind==5)=false:=by simpa using u
   obtain rfl:R=0:=by rw[q.o];simp[u]
   obtain⟨m,a,g1,g2,g3,g4,g5,g6,j,k,l,f,g,h,i⟩:=r.o _ N.o;go_wp2;all_goals(try(exfalso;go_light;simp_all;done));go_ret;exact⟨rfl,(eu t.o N.o)⟩
  have aw:=Hm u;have q5:(x.kind==5)=true:=by simpa using u
  clear u;obtain⟨m,a,g1,g2,g3,g4,g5,g6,j,k,l,f,g,h,i⟩:=r.o _ N.o;go_wp2_with fail;refine(ax.o _).mono ?_;rintro e a9 ⟨rfl,aI⟩;have aj:=Hm (eu N.o aI);clear aI;cases S1
  ·obtain rfl:R=1:=by rw[q.o];simp[aw.o]
   obtain⟨m,a,g1,g2,g3,g4,g5,g6,j,k,l,f,g,h,i⟩:=r.o _ aj.o;go_wp2;all_goals(try(exfalso;go_light;simp_all;done));go_ret;exact⟨rfl,(eu t.o aj.o)⟩
  obtain⟨m,a,g1,g2,g3,g4,g5,g6,j,k,l,f,g,h,i⟩:=r.o _ aj.o;go_wp2_with fail;refine(ay.o _).mono ?_;rintro e ba ⟨rfl,aJ⟩;have ak:=Hm (eu aj.o aJ);clear aJ;cases S2
  ·obtain rfl:R=1:=by rw[q.o];simp[aw.o]
   obtain⟨m,a,g1,g2,g3,g4,g5,g6,j,k,l,f,g,h,i⟩:=r.o _ ak.o;go_wp2;all_goals(try(exfalso;go_light;simp_all;done));go_ret;exact⟨rfl,(eu t.o ak.o)⟩
  ·obtain rfl:R=0:=by rw[q.o];simp
   obtain⟨m,a,g1,g2,g3,g4,g5,g6,j,k,l,f,g,h,i⟩:=r.o _ ak.o;go_wp2;all_goals(try(exfalso;go_light;simp_all;done));go_ret;exact⟨rfl,(eu t.o ak.o)⟩
theorem BB (w:World)(x:Chk)(A:Option Addr)(n c:Nat)(Q:In w A n c x.cols)(A':Option Addr)(n' c':Nat)(S:In w A' n' c' x.ocols)(A'':Option Addr)(n'' c'':Nat)(V:In w A'' n'' c'' x.cond)(hw:Words w)(rn:ByteArray)(J:Option Addr)(H c1:Nat)(cols:List Col)(f:In w J H c1 cols)(Z:Option Addr)(nk ck:Nat)(A3:Option Addr)(n3 c3:Nat)(rows:List Ent)(G:In w A3 n3 c3 rows)(on:ByteArray)(K:Option Addr)(I c2:Nat)(d:List Col)(T:In w K I c2 d)(Al:Option Addr)(nl cl:Nat)(O:Option Addr)(n4 c4:Nat)(u:List Ent)(ao:In w O n4 c4 u)(Y:Option Addr)(n5 c5:Nat)(zs:List Zone)(X:In w Y n5 c5 zs)(ar:n<=4096)(au:n'<=4096)(av:H<=4096)(aw:I<=4096):
  Calls Tryz.prog 35 #[.agg (eP x A n c A' n' c' A'' n'' c'').toArray,.agg #[.string rn,.slice J H c1,.slice Z nk ck,.slice A3 n3 c3],.agg #[.string on,.slice K I c2,.slice Al nl cl,.slice O n4 c4],.slice Y n5 c5] w
   λe w'=>e=.returned (.int .i64 (gu x cols d rows u zs))/\Below w.heap.size w w':=by
 have HV:=Hm λW Q S V hw f T X=>xN W x A n c Q A' n' c' S A'' n'' c'' V hw J H c1 cols f K I c2 d T Y n5 c5 zs X ar au av aw;have HU:=Hm λW=>uB W x.kind;have af:=Hm λW f G=>uH W rn J H c1 cols f Z nk ck A3 n3 c3 rows G;have ag:=Hm λW f G=>uH W on K I c2 d f Al nl cl O n4 c4 u G;have L:=Hm (show gu x cols d rows u zs=if gF x cols d zs≠0 then gF x cols d zs else if ji cols rows≠0 then ji cols rows else if jk x.kind=true then ji d u else 0 from rfl);obtain⟨R,hR⟩: ∃R,gu x cols d rows u zs=R:=⟨_,rfl⟩;obtain⟨E1,aa⟩: ∃R,gF x cols d zs=R:=⟨_,rfl⟩;obtain⟨E2,ab⟩: ∃R,ji cols rows=R:=⟨_,rfl⟩;obtain⟨E3,ac⟩: ∃R,ji d u=R:=⟨_,rfl⟩;obtain⟨U,hU⟩: ∃R,jk x.kind=R:=⟨_,rfl⟩;rw[hR,aa,ab,ac,hU]at L;rw[aa]at HV;rw[ab]at af;rw[ac]at ag;rw[hU]at HU;rw[hR];clear hR aa ab ac hU;simp only[eP]at HV⊢;go_enter Tryz.func35,Tryz.ntmps35;have HN:=Hm Q;clear Q;have ap:=Hm S;clear S;have HQ:=Hm V;clear V;have HW:=Hm hw;clear hw;have HC:=Hm f;clear f;have HO:=Hm T;clear T;have HZ:=Hm X;clear X;have HR:=Hm G;clear G;have aq:=Hm ao;clear ao;go_wp2_with fail;obtain⟨W3,ai,ax,an,g⟩:=jJ w x A n c A' n' c' A'' n'' c'' rn J H c1 Z nk ck A3 n3 c3 on K I c2 Al nl cl O n4 c4;rw[<-ai];clear ai;have a:=Hm an;clear an;obtain⟨⟨j,k,g1,g2,g3,g4,g5,g6,r,s,t,l,m,p,q⟩,⟨h,v,y,z,B⟩,i,C,D,E,F⟩:=g.o _ IJ;go_wp2_with fail;refine(HV.o _ (HN.o.b a.o) (ap.o.b a.o) (HQ.o.b a.o) (HW.o.b a.o) (HC.o.b a.o) (HO.o.b a.o) (HZ.o.b a.o)).mono ?_;rintro e ay ⟨rfl,aj⟩;have M:=Hm aj;clear aj;by_cases h1:E1=0;rotate_left
 ·have q1:(E1==0)=false:=by simpa using h1
  obtain rfl:R=E1:=by rw[L.o,if_pos h1]
  obtain⟨⟨j,k,g1,g2,g3,g4,g5,g6,r,s,t,l,m,p,q⟩,⟨h,v,y,z,B⟩,i,C,D,E,F⟩:=g.o _ M.o;go_wp2;all_goals(try(exfalso;go_light;simp_all;done));go_ret;exact⟨rfl,(eu a.o M.o)⟩
 subst h1;obtain⟨⟨j,k,g1,g2,g3,g4,g5,g6,r,s,t,l,m,p,q⟩,⟨h,v,y,z,B⟩,i,C,D,E,F⟩:=g.o _ M.o;go_wp2_with fail;have ad:=Hm (eu a.o M.o);refine(af.o _ (HC.o.b ad.o) (HR.o.b ad.o)).mono ?_;rintro e az ⟨rfl,ak⟩;have P:=Hm (eu M.o ak);clear ak;by_cases h2:E2=0;rotate_left
 ·have q2:(E2==0)=false:=by simpa using h2
  obtain rfl:R=E2:=by rw[L.o];simp[h2]
  obtain⟨⟨j,k,g1,g2,g3,g4,g5,g6,r,s,t,l,m,p,q⟩,⟨h,v,y,z,B⟩,i,C,D,E,F⟩:=g.o _ P.o;go_wp2;all_goals(try(exfalso;go_light;simp_all;done));go_ret;exact⟨rfl,(eu a.o P.o)⟩
 subst h2;obtain⟨⟨j,k,g1,g2,g3,g4,g5,g6,r,s,t,l,m,p,q⟩,⟨h,v,y,z,B⟩,i,C,D,E,F⟩:=g.o _ P.o;go_wp2_with fail;refine(HU.o _).mono ?_;rintro e aA ⟨rfl,al⟩;have N:=Hm (eu P.o al);clear al;cases U
 ·obtain rfl:R=0:=by rw[L.o];simp
  obtain⟨⟨j,k,g1,g2,g3,g4,g5,g6,r,s,t,l,m,p,q⟩,⟨h,v,y,z,B⟩,i,C,D,E,F⟩:=g.o _ N.o;go_wp2;all_goals(try(exfalso;go_light;simp_all;done));go_ret;exact⟨rfl,(eu a.o N.o)⟩
 ·obtain rfl:R=E3:=by rw[L.o];simp
  obtain⟨⟨j,k,g1,g2,g3,g4,g5,g6,r,s,t,l,m,p,q⟩,⟨h,v,y,z,B⟩,i,C,D,E,F⟩:=g.o _ N.o;go_wp2_with fail;have ae:=Hm (eu a.o N.o);refine(ag.o _ (HO.o.b ae.o) (aq.o.b ae.o)).mono ?_;rintro e aB ⟨rfl,am⟩;have ah:=Hm (eu N.o am);clear am;obtain⟨⟨j,k,g1,g2,g3,g4,g5,g6,r,s,t,l,m,p,q⟩,⟨h,v,y,z,B⟩,i,C,D,E,F⟩:=g.o _ ah.o;go_wp2;all_goals(try(exfalso;go_light;simp_all;done));go_ret;exact⟨rfl,(eu a.o ah.o)⟩
open Go.RowKit Go.Maps
structure OwnAt (W:World) (go gr gc:Nat) (A:Option Addr) (n c:Nat) (cols:List Col) (A3:Option Addr) (n3 c3:Nat) (names:List ByteArray):Prop where
 own:W.cell? ⟨go,0,none⟩=some (.func (.func 58) #[] #[.pointer (some ⟨gr,0,none⟩),.pointer (some ⟨gc,0,none⟩)])
 rel:W.cell? ⟨gr,1,none⟩=some (.slice A n c)
 chk:W.cell? ⟨gc,3,none⟩=some (.slice A3 n3 c3)
 cols:In W A n c cols
 names:In W A3 n3 c3 names
theorem OwnAt.b {W a:World}{go gr gc:Nat}{A:Option Addr}{n c:Nat}{cols:List Col}{A3:Option Addr}{n3 c3:Nat}{names:List ByteArray}(h:OwnAt W go gr gc A n c cols A3 n3 c3 names)(hb:Below W.heap.size W a):OwnAt a go gr gc A n c cols A3 n3 c3 names:=
 ⟨eG hb (lt_of_cell h.own) h.own,eG hb (lt_of_cell h.rel) h.rel,eG hb (lt_of_cell h.chk) h.chk,h.cols.b hb,h.names.b hb⟩
section
variable (W:World)(go gr gc:Nat)(A:Option Addr)(n c:Nat)(cols:List Col)(A3:Option Addr)(n3 c3:Nat)(names:List ByteArray)(h:OwnAt W go gr gc A n c cols A3 n3 c3 names)(q:n<=4096)(j:n3<=4096)(d:Option Addr)(i g:Nat)(row:List Val)(a:In W d i g row)
include h q j a in
theorem yc:
  Calls Tryz.prog 58 #[.slice d i g,.pointer (some ⟨gr,0,none⟩),.pointer (some ⟨gc,0,none⟩)] W
   λe w'=>(∃A' m c',e=.returned (.slice A' m c')/\In w' A' m c' (fF cols names row))/\Below W.heap.size W w':=by
 have t:=h.rel;have u:=h.chk;have l:=Hm h.cols;have r:=Hm h.names;clear h;go_enter Tryz.func58,Tryz.ntmps58;go_wp2_with fail;refine(zq _ A n c cols (by exact l.o) A3 n3 c3 names (by exact r.o) d i g row (by exact a) Ho j).mono ?_;rintro e v ⟨⟨A',m,c',rfl,f,b,s⟩,hb⟩;have p:=Hm (iy f b);have k:=Hm hb;clear f b s hb;go_wp2;go_ret;exact⟨⟨A',m,c',rfl,p.o⟩,k.o⟩
include h q j a in
theorem FH (v b k:Nat)(w:W.cell? ⟨v,0,none⟩=some (.map (some b)))(f:ByteArray->Int)(G:lK Tryz.prog 9 W b k (.int .i64 0) (λs=>.int .i64 (f s))):
  Calls Tryz.prog 61 #[.slice d i g,.pointer (some ⟨v,0,none⟩),.pointer (some ⟨go,0,none⟩)] W
   λe w'=>e=.returned (.bool (decide (1<f (ja (fF cols names row)))))/\Below W.heap.size W w':=by
 have u:=h.own;have O:=lt_of_cell u;have P:=lt_of_cell w;have J:=Hm h;have L:=Hm G;have K:=Hm a;have y:=Hm w;have x:=Hm u;have D:=Hm O;have E:=Hm P;obtain⟨T,r⟩: ∃T,ja (fF cols names row)=T:=⟨_,rfl⟩;have C:=Hm (mR (fF cols names row));rw[r]at C;have B:=Hm r;rw[r];clear r h G a;obtain⟨M,F⟩: ∃p,fF cols names row=p:=⟨_,rfl⟩;have z:=Hm λV N a=>yc V go gr gc A n c cols A3 n3 c3 names N q j d i g row a;rw[F]at B z;clear F;go_enter Tryz.func61,Tryz.ntmps61;go_wp2;have Q:True:=trivial;go_region_held3 (λV=>V.cell? ⟨v,0,none⟩=some (.map (some b))/\V.cell? ⟨go,0,none⟩=some (.func (.func 58) #[] #[.pointer (some ⟨gr,0,none⟩),.pointer (some ⟨gc,0,none⟩)]))
  (first|exact⟨eG l.o E.o y.o,eG l.o D.o x.o⟩|exact⟨eG t.o E.o y.o,eG t.o D.o x.o⟩|exact⟨w,u⟩)
  (first
   |(clear Q;go_at_call 58;refine(z.o _ (by exact J.o.b (IJ).drew) (by exact K.o.b (IJ).drew)).mono ?_;rintro e Y ⟨⟨A',m,c',rfl,hi⟩,hb⟩;have I:=Hm hi;have t:=Hm (eF hb);clear hi hb;have R:True:=trivial)
   |(clear R;go_at_call 62;refine(zG _ A' m c' M (by exact I.o)).mono ?_;rintro e S ⟨rfl,H⟩;rw[B.o];have l:=Hm (eu t.o H);have U:=(L.o.b l.o).look (V:=S) Tryz.underlying103 Tryz.underlying9 (λV=>Tryz.zeroValue3 V) C.o rfl;clear H;have X:True:=trivial))
 go_wp2;go_ret;exact⟨rfl,l.o⟩
include h q j a in
theorem Jq:
  Calls Tryz.prog 63 #[.slice d i g,.pointer (some ⟨go,0,none⟩)] W
   λe w'=>e=.returned (.bool (nY (fF cols names row)))/\Below W.heap.size W w':=by
 have x:=h.own;have t:=Hm h;have u:=Hm a;clear h a;obtain⟨v,f⟩: ∃p,fF cols names row=p:=⟨_,rfl⟩;have b:=Hm λV w a=>yc V go gr gc A n c cols A3 n3 c3 names w q j d i g row a;rw[f]at b⊢;clear f;go_enter Tryz.func63,Tryz.ntmps63;go_wp2_with fail;refine(b.o _ (by exact t.o) (by exact u.o)).mono ?_;rintro e y ⟨⟨A',m,c',rfl,hi⟩,hb⟩;have s:=Hm hi;have l:=Hm hb;clear hi hb;go_wp2_with fail;refine(xH _ A' m c' v (by exact s.o)).mono ?_;rintro e z ⟨rfl,k⟩;have r:=Hm (eu l.o k);clear k;go_wp2;go_ret;exact⟨rfl,r.o⟩
include h q j a in
theorem Hw (s hi:Int)(y:W.cell? ⟨gc,6,none⟩=some (.int .i64 s))(J:W.cell? ⟨gc,7,none⟩=some (.int .i64 hi))(z:0<(fF cols names row).length):
  Calls Tryz.prog 65 #[.slice d i g,.pointer (some ⟨go,0,none⟩),.pointer (some ⟨gc,0,none⟩)] W
   λe w'=>e=.returned (.bool (((fF cols names row).getD 0 zeroV).kind != 0&&(decide (((fF cols names row).getD 0 zeroV).num<s) || decide (hi<((fF cols names row).getD 0 zeroV).num))))/\Below W.heap.size W w':=by
 have e0:=h.own;have T:=Hm h;have U:=Hm a;clear h a;obtain⟨I,K⟩: ∃p,fF cols names row=p:=⟨_,rfl⟩;have D:=Hm λV Z a=>yc V go gr gc A n c cols A3 n3 c3 names Z q j d i g row a;rw[K]at D z⊢;clear K;obtain⟨V,X,rfl⟩: ∃v l,I=v::l:=by
  cases I with
  |nil=>simp at z
  |cons v l=>exact⟨v,l,rfl⟩
 obtain⟨t,r,vs⟩:=V;have E:=Hm (show((⟨t,r,vs⟩::X:List Val).getD 0 zeroV)=⟨t,r,vs⟩ from rfl);rw[E.o];clear z E;have G:=lt_of_cell y;have Q:=Hm y;have R:=Hm J;clear y J;go_enter Tryz.func65,Tryz.ntmps65;go_wp2_with fail;refine(D.o _ (by exact T.o) (by exact U.o)).mono ?_;rintro e C ⟨⟨A',m,c',rfl,u⟩,hb⟩;have P:=eG hb G Q.o;have q7:=eG hb G R.o;have H:=lt_of_cell P;have S:=Hm hb;have Y:0<m:=by rw[<-u.len];simp
 obtain⟨b,off,x,rfl,aa,F,x0,x1,x2,x3⟩:=u.val Y;have L:=F.o;rw[List.drop_zero]at L;injection L with hx1 hx2;subst hx1;have ab:=u.cap;have z0:(0:Int)<(m:Int):=by omega
 have ac:(0:Int)<=(c':Int):=by omega
 clear u hb hx2 F;simp only[Nat.zero_mul,Nat.add_zero]at x0 x1 x2;obtain⟨k,f⟩: ∃k,k=C.alloc (.cells #[.int .i64 t,.int .i64 r,.string vs] 67):=⟨_,rfl⟩;have y0:k.cell? ⟨C.heap.size,0,none⟩=some (.int .i64 t):=by rw[f];simp[go_sem]
 have y1:k.cell? ⟨C.heap.size,1,none⟩=some (.int .i64 r):=by rw[f];simp[go_sem]
 have r6:k.cell? ⟨gc,6,none⟩=some (.int .i64 s):=by rw[f];exact eG eB H P
 have r7:k.cell? ⟨gc,7,none⟩=some (.int .i64 hi):=by rw[f];exact eG eB H q7
 have w:=Hm (show Below W.heap.size W k by rw[f];exact eu S.o eB);by_cases M:t=0
 ·subst M;go_wp2_with fail;rw[<-f];go_wp2;all_goals(try(exfalso;go_light;simp_all;done));go_ret;exact⟨eU II,w.o⟩
 ·have N:(t != 0)=true:=by simpa using M
  by_cases O:r<s
  ·have B:decide (r<s)=true:=by simpa using O
   go_wp2_with fail;rw[<-f];go_wp2;all_goals(try(exfalso;go_light;simp_all;done));go_ret;exact⟨eU (by rw[N,B];rfl),w.o⟩
  ·have B:decide (r<s)=false:=by simpa using O
   go_wp2_with fail;rw[<-f];go_wp2;all_goals(try(exfalso;go_light;simp_all;done));go_ret;exact⟨eU (by rw[N,B];simp),w.o⟩
include h q j a in
theorem Ht (J b k:Nat)(K:W.cell? ⟨J,0,none⟩=some (.map (some b)))(f:ByteArray->Int)(S:lK Tryz.prog 9 W b k (.int .i64 0) (λs=>.int .i64 (f s))):
  Calls Tryz.prog 66 #[.slice d i g,.pointer (some ⟨go,0,none⟩),.pointer (some ⟨J,0,none⟩)] W
   λe w'=>e=.returned (.bool (!nY (fF cols names row)&&f (ja (fF cols names row))==0))/\Below W.heap.size W w':=by
 have I:=h.own;have l0:=lt_of_cell I;have lm:=lt_of_cell K;have F:=Hm h;have HS:=Hm S;have G:=Hm a;have w:=Hm K;have v:=Hm I;have y:=Hm l0;have z:=Hm lm;obtain⟨T,B⟩: ∃T,ja (fF cols names row)=T:=⟨_,rfl⟩;have P:=Hm (mR (fF cols names row));rw[B]at P;have O:=Hm B;rw[B];clear B h S a;obtain⟨H,R⟩: ∃p,fF cols names row=p:=⟨_,rfl⟩;have x:=Hm λV hv a=>yc V go gr gc A n c cols A3 n3 c3 names hv q j d i g row a;rw[R]at O x⊢;clear R;have E:=Hm λV A' m c' hi=>xH V A' m c' H hi;obtain⟨N,Q⟩: ∃N,nY H=N:=⟨_,rfl⟩;rw[Q]at E⊢;clear Q;cases N
 ·go_enter Tryz.func66,Tryz.ntmps66;go_wp2;have L:True:=trivial;go_region_held3 (λV=>V.cell? ⟨J,0,none⟩=some (.map (some b))/\V.cell? ⟨go,0,none⟩=some (.func (.func 58) #[] #[.pointer (some ⟨gr,0,none⟩),.pointer (some ⟨gc,0,none⟩)]))
   (first|exact⟨eG u.o z.o w.o,eG u.o y.o v.o⟩|exact⟨eG C.o z.o w.o,eG C.o y.o v.o⟩|exact⟨eG l.o z.o w.o,eG l.o y.o v.o⟩|exact⟨eG r.o z.o w.o,eG r.o y.o v.o⟩|exact⟨K,I⟩)
   (first
    |(clear L;go_at_call 58;refine(x.o _ (by exact F.o.b (IJ).drew) (by exact G.o.b (IJ).drew)).mono ?_;rintro e w1 ⟨⟨A',m,c',rfl,hi⟩,hb⟩;have D:=Hm hi;have r:=Hm (eF hb);clear hi hb;have M:True:=trivial)
    |(clear M;go_at_call 64;refine(E.o _ A' m c' (by exact D.o)).mono ?_;rintro e w2 ⟨rfl,t⟩;have l:=Hm (eu r.o t);clear t;have Z:True:=trivial)
    |(clear Z;go_at_call 58;refine(x.o _ (by exact F.o.b l.o) (by exact G.o.b l.o)).mono ?_;rintro e w3 ⟨⟨A5,m5,c5,rfl,Y⟩,U⟩;have aa:=Hm Y;have C:=Hm (eu l.o U);clear Y U;have ab:True:=trivial)
    |(clear ab;go_at_call 62;refine(zG _ A5 m5 c5 H (by exact aa.o)).mono ?_;rintro e w4 ⟨rfl,X⟩;rw[O.o];have u:=Hm (eu C.o X);have LK:=(HS.o.b u.o).look (V:=w4) Tryz.underlying103 Tryz.underlying9 (λV=>Tryz.zeroValue3 V) P.o rfl;clear X;have ac:True:=trivial))
  go_wp2;go_ret;exact⟨eU II,u.o⟩
 ·go_enter Tryz.func66,Tryz.ntmps66;go_wp2;have L:True:=trivial
  first|(go_region_law (first|(clear L;go_simp;go_at_call 58;refine(x.o _ (by exact F.o.b (IJ).drew) (by exact G.o.b (IJ).drew)).mono ?_;rintro e w1 ⟨⟨A',m,c',rfl,hi⟩,hb⟩;have D:=Hm hi;have r:=Hm (eF hb);clear hi hb;have M:True:=trivial;go_wp2_with fail)|(clear M;go_simp;go_at_call 64;refine(E.o _ A' m c' (by exact D.o)).mono ?_;rintro e w2 ⟨rfl,t⟩;have l:=Hm (eu r.o t);clear t;have Z:True:=trivial;go_wp2_with fail)))|fail
  all_goals
   go_wp2;go_ret;exact⟨eU II,l.o⟩
end
theorem xx (es:List Node)(cols:List Col)(row:List Val)(zs:List Zone):valid (kT es cols row zs).2=true:=by
 rw[kT];by_cases a:(ig es cols zs).1=0
 ·rw[if_neg Ho];by_cases b:fB cols row=0
  ·rw[if_neg Ho];exact(EH b a).2.1
  ·rw[if_pos b];exact oq
 ·rw[if_pos a];exact oq
theorem GI (w:World)(x:Chk)(A:Option Addr)(n c:Nat)(A':Option Addr)(n' c':Nat)(A'':Option Addr)(n'' c'':Nat)(g:In w A'' n'' c'' x.cond)(hw:Words w)(j:Option Addr)(L c1:Nat)(cols:List Col)(f:In w j L c1 cols)(A3:Option Addr)(n3 c3:Nat)(row:List Val)(h:In w A3 n3 c3 row)(k:Option Addr)(M c2:Nat)(zs:List Zone)(i:In w k M c2 zs):
  Calls Tryz.prog 68 #[.agg (eP x A n c A' n' c' A'' n'' c'').toArray,.slice j L c1,.slice A3 n3 c3,.slice k M c2] w λe w'=>e=.returned (.bool (qO x.cond cols row zs))/\Below w.heap.size w w':=by
 have p:=Hm λW g hw f h i=>IX W A'' n'' c'' x.cond g hw j L c1 cols f A3 n3 c3 row h k M c2 zs i;have t:=Hm (l9 (xx x.cond cols row zs));have d:=Hm (show qO x.cond cols row zs=((kT x.cond cols row zs).1==0&&truth (kT x.cond cols row zs).2==1) from rfl);obtain⟨R,I⟩: ∃R,qO x.cond cols row zs=R:=⟨_,rfl⟩;obtain⟨E,V⟩: ∃E,kT x.cond cols row zs=E:=⟨_,rfl⟩;rw[I]at d;rw[V]at p t d;rw[I];clear I V;obtain⟨S,N,O,vs⟩:=E;simp only[Val.cells]at p t d;simp only[eP];go_enter Tryz.func68,Tryz.ntmps68;have r:=Hm g;clear g;have u:=Hm hw;clear hw;have m:=Hm f;clear f;have s:=Hm h;clear h;have v:=Hm i;clear i;go_wp2_with fail;obtain⟨W1,J⟩: ∃W,W=w.alloc (.cells #[.string x.name,.string x.table,.int .i64 x.kind,.slice A n c,.string x.other,.slice A' n' c',.int .i64 x.low,.int .i64 x.high,.slice A'' n'' c'',.int .i64 x.ln,.int .i64 x.ld,.int .i64 x.mn,.int .i64 x.md,.int .i64 x.policy] 27):=⟨_,rfl⟩;obtain⟨a,aa,y,g1,g2,g3,g4,g5,g6,F,G,H,z,B,C,D⟩:=gZ J rfl;rw[<-J];clear J;have r:=Hm (r.o.b a);have u:=Hm (u.o.b a);have m:=Hm (m.o.b a);have s:=Hm (s.o.b a);have v:=Hm (v.o.b a);have Z:=Hm a;clear a;have P:=lt_of_cell y;refine(p.o _ r.o u.o m.o s.o v.o).mono ?_;rintro e w2 ⟨rfl,K⟩;obtain⟨y,g1,g2,g3,g4,g5,g6,F,G,H,z,B,C,D,P⟩:=gB K P y g1 g2 g3 g4 g5 g6 F G H z B C D;have Q:=Hm (eu Z.o K);clear K;clear g1 g2 g3 g4 g5 g6 F G H z B C D;by_cases U:S=0
 ·subst U;go_wp2_with fail;refine(rC ⟨N,O,vs⟩ t.o _).mono ?_;rintro e w3 ⟨rfl,Y⟩;have l:=Hm (eu Q.o (eu eB Y));obtain⟨T,X⟩: ∃T,truth ⟨N,O,vs⟩=T:=⟨_,rfl⟩;rw[X]at d⊢;clear X Y;go_wp2;go_ret;exact⟨eU (by rw[d.o];simp),l.o⟩
 ·have q:(S==0)=false:=by simpa using U
  obtain rfl:R=false:=by rw[d.o,q];rfl
  have l:=Hm (eu Q.o (eB (o:=.cells #[.int .i64 N,.int .i64 O,.string vs] 67)));go_wp2;all_goals(try(exfalso;go_light;simp_all;done));go_ret;exact⟨rfl,l.o⟩
structure ChkAt (W:World) (g:Nat) (x:Chk) (A:Option Addr) (n c:Nat) (A':Option Addr) (n' c':Nat) (A'':Option Addr) (n'' c'':Nat):Prop where
 c0:W.cell? ⟨g,0,none⟩=some (.string x.name)
 c1:W.cell? ⟨g,1,none⟩=some (.string x.table)
 c2:W.cell? ⟨g,2,none⟩=some (.int .i64 x.kind)
 c3:W.cell? ⟨g,3,none⟩=some (.slice A n c)
 c4:W.cell? ⟨g,4,none⟩=some (.string x.other)
 c5:W.cell? ⟨g,5,none⟩=some (.slice A' n' c')
 c6:W.cell? ⟨g,6,none⟩=some (.int .i64 x.low)
 c7:W.cell? ⟨g,7,none⟩=some (.int .i64 x.high)
 c8:W.cell? ⟨g,8,none⟩=some (.slice A'' n'' c'')
 c9:W.cell? ⟨g,9,none⟩=some (.int .i64 x.ln)
 c10:W.cell? ⟨g,10,none⟩=some (.int .i64 x.ld)
 c11:W.cell? ⟨g,11,none⟩=some (.int .i64 x.mn)
 c12:W.cell? ⟨g,12,none⟩=some (.int .i64 x.md)
 c13:W.cell? ⟨g,13,none⟩=some (.int .i64 x.policy)
theorem ChkAt.b {W a:World}{g:Nat}{x:Chk}{A:Option Addr}{n c:Nat}{A':Option Addr}{n' c':Nat}{A'':Option Addr}{n'' c'':Nat}(h:ChkAt W g x A n c A' n' c' A'' n'' c'')(hb:Below W.heap.size W a):ChkAt a g x A n c A' n' c' A'' n'' c'':=
 ⟨eG hb (lt_of_cell h.c0) h.c0,eG hb (lt_of_cell h.c1) h.c1,eG hb (lt_of_cell h.c2) h.c2,eG hb (lt_of_cell h.c3) h.c3,eG hb (lt_of_cell h.c4) h.c4,eG hb (lt_of_cell h.c5) h.c5,eG hb (lt_of_cell h.c6) h.c6,eG hb (lt_of_cell h.c7) h.c7,eG hb (lt_of_cell h.c8) h.c8,eG hb (lt_of_cell h.c9) h.c9,eG hb (lt_of_cell h.c10) h.c10,eG hb (lt_of_cell h.c11) h.c11,eG hb (lt_of_cell h.c12) h.c12,eG hb (lt_of_cell h.c13) h.c13⟩
theorem IG (W:World)(gc gr j:Nat)(x:Chk)(A:Option Addr)(n c:Nat)(A':Option Addr)(n' c':Nat)(A'':Option Addr)(n'' c'':Nat)(C:ChkAt W gc x A n c A' n' c' A'' n'' c'')(a:Option Addr)(g c1:Nat)(cols:List Col)(D:W.cell? ⟨gr,1,none⟩=some (.slice a g c1))(b:Option Addr)(h c2:Nat)(zs:List Zone)(E:W.cell? ⟨j,0,none⟩=some (.slice b h c2))(l:In W A'' n'' c'' x.cond)(hw:Words W)(k:In W a g c1 cols)(p:In W b h c2 zs)(d:Option Addr)(i f:Nat)(row:List Val)(m:In W d i f row):
  Calls Tryz.prog 67 #[.slice d i f,.pointer (some ⟨gc,0,none⟩),.pointer (some ⟨gr,0,none⟩),.pointer (some ⟨j,0,none⟩)] W
   λe w'=>e=.returned (.bool (!qO x.cond cols row zs))/\Below W.heap.size W w':=by
 have r:=Hm (GI W x A n c A' n' c' A'' n'' c'' l hw a g c1 cols k d i f row m b h c2 zs p);obtain⟨s,g1,g2,g3,g4,g5,g6,y,z,B,t,u,v,w⟩:=C;clear l hw k p m;go_enter Tryz.func67,Tryz.ntmps67;go_wp2_with fail;refine r.o.mono ?_;rintro e F ⟨rfl,hb⟩;have q:=Hm hb;clear hb s g1 g2 g3 g4 g5 g6 y z B t u v w;go_wp2;go_ret;exact⟨rfl,q.o⟩
theorem Jo (W:World)(v:Value):Calls Tryz.prog 69 #[v] W λe w'=>e=.returned (.bool false)/\Below W.heap.size W w':=by
 go_enter Tryz.func69,Tryz.ntmps69;go_wp2;go_ret;exact⟨rfl,IJ⟩
end Go.Proofs.YthnelebakkggjaaGreatDoor
