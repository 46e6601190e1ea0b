/-
  check.Validate, check.checkAll. (Printed by gen_chka.py.)
-/
import Derived.Test.YtopjjlmfilgngaaGreatDoorChkV
import Derived.Test.YtopjjlmfilgngaaGreatDoorGai
namespace Go.Proofs.YtopjjlmfilgngaaGreatDoor
set_option maxHeartbeats 4000000
set_option maxRecDepth 100000
open Go.RowKit
set_option linter.unusedSimpArgs false
set_option linter.unusedVariables false
theorem uj (x:Chk)(cols ocols:List Col)(zs:List Zone)(h1:¬(x.kind<0\/6<x.kind\/x.policy<0\/2<x.policy))(h2:¬(x.policy=0/\(x.kind=5\/x.kind=6))):
  dN x cols ocols zs=if ax cols≠0 then ax cols else if lZ x.kind=false then iN x cols ocols else if iO x cols zs≠0 then iO x cols zs else if x.kind=5/\(gY x.ln x.ld&&gY x.mn x.md)=false then 1 else 0:=by
 rw[dN,if_neg h1,if_neg h2]
theorem pz (w:World)(x:Chk)(A:Option Addr)(n c:Nat)(hn:In w A n c x.cols)(A':Option Addr)(n' c':Nat)(hn':In w A' n' c' x.ocols)(bN:Option Addr)(n'' c'':Nat)(hq:In w bN n'' c'' x.cond)(hw:Words w)(A1:Option Addr)(n1 c1:Nat)(cols:List Col)(hc:In w A1 n1 c1 cols)(A2:Option Addr)(n2 c2:Nat)(ocols:List Col)(ho:In w A2 n2 c2 ocols)(A5:Option Addr)(n5 c5:Nat)(zs:List Zone)(hz:In w A5 n5 c5 zs)(hb0:n<=4096)(hb1:n'<=4096)(hb2:n1<=4096)(hb3:n2<=4096):
  Calls Tryz.prog 113 #[.agg (aL x A n c A' n' c' bN n'' c'').toArray,.slice A1 n1 c1,.slice A2 n2 c2,.slice A5 n5 c5] w λe w'=>e=.returned (.int .i64 (dN x cols ocols zs))/\Below w.heap.size w w':=by
 have Jo:=hide λW hn hn' hc ho=>nT W x A n c hn A' n' c' hn' bN n'' c'' A1 n1 c1 cols hc A2 n2 c2 ocols ho hb0 hb1 hb2 hb3;have Jp:=hide λW hq hw hc hz=>rJ W x A n c A' n' c' bN n'' c'' hq hw A1 n1 c1 cols hc A5 n5 c5 zs hz;have KS:=hide λW=>Ad W x.kind;have MC:=hide λW=>tL W x.ln x.ld;have HS2:=hide λW=>tL W x.mn x.md;have HP:=hide (uj x cols ocols zs);have HD:=hide (show dN x cols ocols zs=if x.kind<0\/6<x.kind\/x.policy<0\/2<x.policy then 1 else if x.policy=0/\(x.kind=5\/x.kind=6) then 7 else dN x cols ocols zs from by
  by_cases h1:x.kind<0\/6<x.kind\/x.policy<0\/2<x.policy
  ·rw[if_pos h1,dN,if_pos h1]
  ·rw[if_neg h1];by_cases h2:x.policy=0/\(x.kind=5\/x.kind=6)
   ·rw[if_pos h2,dN,if_neg h1,if_pos h2]
   ·rw[if_neg h2])
 obtain ⟨R,hR⟩: ∃R,dN x cols ocols zs=R:=⟨_,rfl⟩;rw[hR]at HD HP;rw[hR];obtain ⟨CE,F9⟩: ∃C,ax cols=C:=⟨_,rfl⟩;obtain ⟨CK,Ll⟩: ∃C,iN x cols ocols=C:=⟨_,rfl⟩;obtain ⟨CD,Lj⟩: ∃C,iO x cols zs=C:=⟨_,rfl⟩;obtain ⟨UC,Lt⟩: ∃U,lZ x.kind=U:=⟨_,rfl⟩;obtain ⟨S1,hS1⟩: ∃S,gY x.ln x.ld=S:=⟨_,rfl⟩;obtain ⟨S2,hS2⟩: ∃S,gY x.mn x.md=S:=⟨_,rfl⟩;rw[F9,Ll,Lj,Lt,hS1,hS2]at HP;rw[Ll]at Jo;rw[Lj]at Jp;rw[Lt]at KS;rw[hS1]at MC;rw[hS2]at HS2;have Gp:=hide F9;clear hR F9 Ll Lj Lt hS1 hS2;have hA:(decide (x.kind<0)=true/\R=1)\/(decide (x.kind<0)=false/\decide (6<x.kind)=true/\R=1)\/(decide (x.kind<0)=false/\decide (6<x.kind)=false/\decide (x.policy<0)=true/\R=1)
   \/(decide (x.kind<0)=false/\decide (6<x.kind)=false/\decide (x.policy<0)=false/\decide (2<x.policy)=true/\R=1)
   \/(decide (x.kind<0)=false/\decide (6<x.kind)=false/\decide (x.policy<0)=false/\decide (2<x.policy)=false/\((((x.policy==0)=true/\(x.kind==5)=true/\R=7)\/((x.policy==0)=true/\(x.kind==5)=false/\(x.kind==6)=true/\R=7)
    \/((x.policy==0)=true/\(x.kind==5)=false/\(x.kind==6)=false/\Hid (R=if CE≠0 then CE else if UC=false then CK else if CD≠0 then CD else if x.kind=5/\(S1&&S2)=false then 1 else 0))\/((x.policy==0)=false/\Hid (R=if CE≠0 then CE else if UC=false then CK else if CD≠0 then CD else if x.kind=5/\(S1&&S2)=false then 1 else 0))))):=by
  by_cases a1:x.kind<0
  ·exact .inl ⟨by simpa using a1,by rw[HD.out,if_pos (.inl a1)]⟩
  by_cases a2:6<x.kind
  ·exact .inr (.inl ⟨by simpa using a1,by simpa using a2,by rw[HD.out,if_pos (.inr (.inl a2))]⟩)
  by_cases a3:x.policy<0
  ·exact .inr (.inr (.inl ⟨by simpa using a1,by simpa using a2,by simpa using a3,by rw[HD.out,if_pos (.inr (.inr (.inl a3)))]⟩))
  by_cases a4:2<x.policy
  ·exact .inr (.inr (.inr (.inl ⟨by simpa using a1,by simpa using a2,by simpa using a3,by simpa using a4,by rw[HD.out,if_pos (.inr (.inr (.inr a4)))]⟩)))
  have b:¬(x.kind<0\/6<x.kind\/x.policy<0\/2<x.policy):=by omega
  refine .inr (.inr (.inr (.inr ⟨by simpa using a1,by simpa using a2,by simpa using a3,by simpa using a4,?_⟩)));by_cases a5:x.policy=0
  ·by_cases a6:x.kind=5
   ·exact .inl ⟨by simpa using a5,by simpa using a6,by rw[HD.out,if_neg b,if_pos ⟨a5,.inl a6⟩]⟩
   by_cases a7:x.kind=6
   ·exact .inr (.inl ⟨by simpa using a5,by simpa using a6,by simpa using a7,by rw[HD.out,if_neg b,if_pos ⟨a5,.inr a7⟩]⟩)
   ·exact .inr (.inr (.inl ⟨by simpa using a5,by simpa using a6,by simpa using a7,hide (HP.out b (by omega))⟩))
  ·exact .inr (.inr (.inr ⟨by simpa using a5,hide (HP.out b (by omega))⟩))
 clear HD HP;simp only[aL]at Jo Jp⊢;rcases hA with ⟨d1,rfl⟩|⟨d1,d2,rfl⟩|⟨d1,d2,d3,rfl⟩|⟨d1,d2,d3,d4,rfl⟩|⟨d1,d2,d3,d4,⟨d5,d6,rfl⟩|⟨d5,d6,d7,rfl⟩|⟨d5,d6,d7,Am⟩|⟨d5,Am⟩⟩
 ·go_enter Tryz.func113,Tryz.ntmps113;go_wp2_with fail;obtain ⟨W1,hW1⟩: ∃W,W=w.alloc (.cells #[.string x.name,.string x.table,.int .i64 x.kind,.slice A n c,.string x.other,.slice A' n' c',.int .i64 x.low,.int .i64 x.high,.slice bN n'' c'',.int .i64 x.ln,.int .i64 x.ld,.int .i64 x.mn,.int .i64 x.md,.int .i64 x.policy] 48):=⟨_,rfl⟩;obtain ⟨hbW1,fA,g0,g1,g2,g3,g4,g5,g6,g7,g8,g9,g10,g11,g12,g13⟩:=bV hW1 rfl;rw[<-hW1];clear hW1;have jH:=hide hbW1;clear hbW1;have LR:=lt_of_cell g0;go_wp2;all_goals (try (exfalso;go_light;simp_all;done));go_ret;exact ⟨rfl,jH.out⟩
 ·go_enter Tryz.func113,Tryz.ntmps113;go_wp2_with fail;obtain ⟨W1,hW1⟩: ∃W,W=w.alloc (.cells #[.string x.name,.string x.table,.int .i64 x.kind,.slice A n c,.string x.other,.slice A' n' c',.int .i64 x.low,.int .i64 x.high,.slice bN n'' c'',.int .i64 x.ln,.int .i64 x.ld,.int .i64 x.mn,.int .i64 x.md,.int .i64 x.policy] 48):=⟨_,rfl⟩;obtain ⟨hbW1,fA,g0,g1,g2,g3,g4,g5,g6,g7,g8,g9,g10,g11,g12,g13⟩:=bV hW1 rfl;rw[<-hW1];clear hW1;have jg:=hide hbW1;clear hbW1;have LR:=lt_of_cell g0;go_wp2;all_goals (try (exfalso;go_light;simp_all;done));go_ret;exact ⟨rfl,jg.out⟩
 ·go_enter Tryz.func113,Tryz.ntmps113;go_wp2_with fail;obtain ⟨W1,hW1⟩: ∃W,W=w.alloc (.cells #[.string x.name,.string x.table,.int .i64 x.kind,.slice A n c,.string x.other,.slice A' n' c',.int .i64 x.low,.int .i64 x.high,.slice bN n'' c'',.int .i64 x.ln,.int .i64 x.ld,.int .i64 x.mn,.int .i64 x.md,.int .i64 x.policy] 48):=⟨_,rfl⟩;obtain ⟨hbW1,fA,g0,g1,g2,g3,g4,g5,g6,g7,g8,g9,g10,g11,g12,g13⟩:=bV hW1 rfl;rw[<-hW1];clear hW1;have lK:=hide hbW1;clear hbW1;have LR:=lt_of_cell g0;go_wp2;all_goals (try (exfalso;go_light;simp_all;done));go_ret;exact ⟨rfl,lK.out⟩
 ·go_enter Tryz.func113,Tryz.ntmps113;go_wp2_with fail;obtain ⟨W1,hW1⟩: ∃W,W=w.alloc (.cells #[.string x.name,.string x.table,.int .i64 x.kind,.slice A n c,.string x.other,.slice A' n' c',.int .i64 x.low,.int .i64 x.high,.slice bN n'' c'',.int .i64 x.ln,.int .i64 x.ld,.int .i64 x.mn,.int .i64 x.md,.int .i64 x.policy] 48):=⟨_,rfl⟩;obtain ⟨hbW1,fA,g0,g1,g2,g3,g4,g5,g6,g7,g8,g9,g10,g11,g12,g13⟩:=bV hW1 rfl;rw[<-hW1];clear hW1;have xg:=hide hbW1;clear hbW1;have LR:=lt_of_cell g0;go_wp2;all_goals (try (exfalso;go_light;simp_all;done));go_ret;exact ⟨rfl,xg.out⟩
 ·go_enter Tryz.func113,Tryz.ntmps113;go_wp2_with fail;obtain ⟨W1,hW1⟩: ∃W,W=w.alloc (.cells #[.string x.name,.string x.table,.int .i64 x.kind,.slice A n c,.string x.other,.slice A' n' c',.int .i64 x.low,.int .i64 x.high,.slice bN n'' c'',.int .i64 x.ln,.int .i64 x.ld,.int .i64 x.mn,.int .i64 x.md,.int .i64 x.policy] 48):=⟨_,rfl⟩;obtain ⟨hbW1,fA,g0,g1,g2,g3,g4,g5,g6,g7,g8,g9,g10,g11,g12,g13⟩:=bV hW1 rfl;rw[<-hW1];clear hW1;have lc:=hide hbW1;clear hbW1;have LR:=lt_of_cell g0;go_wp2;all_goals (try (exfalso;go_light;simp_all;done));go_ret;exact ⟨rfl,lc.out⟩
 ·go_enter Tryz.func113,Tryz.ntmps113;go_wp2_with fail;obtain ⟨W1,hW1⟩: ∃W,W=w.alloc (.cells #[.string x.name,.string x.table,.int .i64 x.kind,.slice A n c,.string x.other,.slice A' n' c',.int .i64 x.low,.int .i64 x.high,.slice bN n'' c'',.int .i64 x.ln,.int .i64 x.ld,.int .i64 x.mn,.int .i64 x.md,.int .i64 x.policy] 48):=⟨_,rfl⟩;obtain ⟨hbW1,fA,g0,g1,g2,g3,g4,g5,g6,g7,g8,g9,g10,g11,g12,g13⟩:=bV hW1 rfl;rw[<-hW1];clear hW1;have AZ:=hide hbW1;clear hbW1;have LR:=lt_of_cell g0;go_wp2;all_goals (try (exfalso;go_light;simp_all;done));go_ret;exact ⟨rfl,AZ.out⟩
 ·go_enter Tryz.func113,Tryz.ntmps113;have HN:=hide hn;clear hn;have fM:=hide hn';clear hn';have HQ:=hide hq;clear hq;have HW:=hide hw;clear hw;have HC:=hide hc;clear hc;have HO:=hide ho;clear ho;have HZ:=hide hz;clear hz;go_wp2_with fail;obtain ⟨W1,hW1⟩: ∃W,W=w.alloc (.cells #[.string x.name,.string x.table,.int .i64 x.kind,.slice A n c,.string x.other,.slice A' n' c',.int .i64 x.low,.int .i64 x.high,.slice bN n'' c'',.int .i64 x.ln,.int .i64 x.ld,.int .i64 x.mn,.int .i64 x.md,.int .i64 x.policy] 48):=⟨_,rfl⟩;obtain ⟨hbW1,fA,g0,g1,g2,g3,g4,g5,g6,g7,g8,g9,g10,g11,g12,g13⟩:=bV hW1 rfl;rw[<-hW1];clear hW1;have kw:=hide hbW1;clear hbW1;have LR:=lt_of_cell g0;go_wp2_with fail;refine (jk _ A1 n1 c1 cols (HC.out.below kw.out)).mono ?_;rintro e w8 ⟨rfl,De⟩;have o9:=lM g0 g1 g2 g3 g4 g5 g6 g7 g8 g9 g10 g11 g12 g13;have dH:=hide De;clear De;rw[Gp.out];by_cases hce:CE=0;rotate_left
  ·have q0:(CE != 0)=true:=by simpa using hce
   obtain rfl:R=CE:=by rw[Am.out,if_pos hce]
   obtain ⟨LR,g0,g1,g2,g3,g4,g5,g6,g7,g8,g9,g10,g11,g12,g13⟩:=o9.out _ dH.out;go_wp2;all_goals (try (exfalso;go_light;simp_all;done));go_ret;exact ⟨rfl,(aa kw.out dH.out)⟩
  subst hce;obtain ⟨LR,g0,g1,g2,g3,g4,g5,g6,g7,g8,g9,g10,g11,g12,g13⟩:=o9.out _ dH.out;go_wp2_with fail;refine (KS.out _).mono ?_;rintro e Pw ⟨rfl,qp⟩;have kz:=hide (aa dH.out qp);clear qp;cases UC
  ·obtain ⟨LR,g0,g1,g2,g3,g4,g5,g6,g7,g8,g9,g10,g11,g12,g13⟩:=o9.out _ kz.out;go_wp2_with fail;have lH:=hide (aa kw.out kz.out);refine (Jo.out _ (HN.out.below lH.out) (fM.out.below lH.out) (HC.out.below lH.out) (HO.out.below lH.out)).mono ?_;rintro e Px ⟨rfl,qw⟩;have kv:=hide (aa kz.out qw);clear qw;obtain rfl:R=CK:=by rw[Am.out];simp
   obtain ⟨LR,g0,g1,g2,g3,g4,g5,g6,g7,g8,g9,g10,g11,g12,g13⟩:=o9.out _ kv.out;go_wp2;all_goals (try (exfalso;go_light;simp_all;done));go_ret;exact ⟨rfl,(aa kw.out kv.out)⟩
  obtain ⟨LR,g0,g1,g2,g3,g4,g5,g6,g7,g8,g9,g10,g11,g12,g13⟩:=o9.out _ kz.out;go_wp2_with fail;have uP:=hide (aa kw.out kz.out);refine (Jp.out _ (HQ.out.below uP.out) (HW.out.below uP.out) (HC.out.below uP.out) (HZ.out.below uP.out)).mono ?_;rintro e w16 ⟨rfl,BQ⟩;have uW:=hide (aa kz.out BQ);clear BQ;by_cases hcd:CD=0;rotate_left
  ·have q0:(CD != 0)=true:=by simpa using hcd
   obtain rfl:R=CD:=by rw[Am.out];simp[hcd]
   obtain ⟨LR,g0,g1,g2,g3,g4,g5,g6,g7,g8,g9,g10,g11,g12,g13⟩:=o9.out _ uW.out;go_wp2;all_goals (try (exfalso;go_light;simp_all;done));go_ret;exact ⟨rfl,(aa kw.out uW.out)⟩
  subst hcd;by_cases hk5:x.kind=5;rotate_left
  ·have q5:(x.kind==5)=false:=by simpa using hk5
   obtain rfl:R=0:=by rw[Am.out];simp[hk5]
   obtain ⟨LR,g0,g1,g2,g3,g4,g5,g6,g7,g8,g9,g10,g11,g12,g13⟩:=o9.out _ uW.out;go_wp2;all_goals (try (exfalso;go_light;simp_all;done));go_ret;exact ⟨rfl,(aa kw.out uW.out)⟩
  rw[hk5]at d6;exact absurd d6 (by decide)
 ·go_enter Tryz.func113,Tryz.ntmps113;have HN:=hide hn;clear hn;have fM:=hide hn';clear hn';have HQ:=hide hq;clear hq;have HW:=hide hw;clear hw;have HC:=hide hc;clear hc;have HO:=hide ho;clear ho;have HZ:=hide hz;clear hz;go_wp2_with fail;obtain ⟨W1,hW1⟩: ∃W,W=w.alloc (.cells #[.string x.name,.string x.table,.int .i64 x.kind,.slice A n c,.string x.other,.slice A' n' c',.int .i64 x.low,.int .i64 x.high,.slice bN n'' c'',.int .i64 x.ln,.int .i64 x.ld,.int .i64 x.mn,.int .i64 x.md,.int .i64 x.policy] 48):=⟨_,rfl⟩;obtain ⟨hbW1,fA,g0,g1,g2,g3,g4,g5,g6,g7,g8,g9,g10,g11,g12,g13⟩:=bV hW1 rfl;rw[<-hW1];clear hW1;have gL:=hide hbW1;clear hbW1;have LR:=lt_of_cell g0;go_wp2_with fail;refine (jk _ A1 n1 c1 cols (HC.out.below gL.out)).mono ?_;rintro e Fw ⟨rfl,vK⟩;have wU:=lM g0 g1 g2 g3 g4 g5 g6 g7 g8 g9 g10 g11 g12 g13;have gI:=hide vK;clear vK;rw[Gp.out];by_cases hce:CE=0;rotate_left
  ·have q0:(CE != 0)=true:=by simpa using hce
   obtain rfl:R=CE:=by rw[Am.out,if_pos hce]
   obtain ⟨LR,g0,g1,g2,g3,g4,g5,g6,g7,g8,g9,g10,g11,g12,g13⟩:=wU.out _ gI.out;go_wp2;all_goals (try (exfalso;go_light;simp_all;done));go_ret;exact ⟨rfl,(aa gL.out gI.out)⟩
  subst hce;obtain ⟨LR,g0,g1,g2,g3,g4,g5,g6,g7,g8,g9,g10,g11,g12,g13⟩:=wU.out _ gI.out;go_wp2_with fail;refine (KS.out _).mono ?_;rintro e Nz ⟨rfl,BR⟩;have fP:=hide (aa gI.out BR);clear BR;cases UC
  ·obtain ⟨LR,g0,g1,g2,g3,g4,g5,g6,g7,g8,g9,g10,g11,g12,g13⟩:=wU.out _ fP.out;go_wp2_with fail;have yR:=hide (aa gL.out fP.out);refine (Jo.out _ (HN.out.below yR.out) (fM.out.below yR.out) (HC.out.below yR.out) (HO.out.below yR.out)).mono ?_;rintro e P7 ⟨rfl,IM⟩;have pu:=hide (aa fP.out IM);clear IM;obtain rfl:R=CK:=by rw[Am.out];simp
   obtain ⟨LR,g0,g1,g2,g3,g4,g5,g6,g7,g8,g9,g10,g11,g12,g13⟩:=wU.out _ pu.out;go_wp2;all_goals (try (exfalso;go_light;simp_all;done));go_ret;exact ⟨rfl,(aa gL.out pu.out)⟩
  obtain ⟨LR,g0,g1,g2,g3,g4,g5,g6,g7,g8,g9,g10,g11,g12,g13⟩:=wU.out _ fP.out;go_wp2_with fail;have yS:=hide (aa gL.out fP.out);refine (Jp.out _ (HQ.out.below yS.out) (HW.out.below yS.out) (HC.out.below yS.out) (HZ.out.below yS.out)).mono ?_;rintro e P8 ⟨rfl,IP⟩;have pU:=hide (aa fP.out IP);clear IP;by_cases hcd:CD=0;rotate_left
  ·have q0:(CD != 0)=true:=by simpa using hcd
   obtain rfl:R=CD:=by rw[Am.out];simp[hcd]
   obtain ⟨LR,g0,g1,g2,g3,g4,g5,g6,g7,g8,g9,g10,g11,g12,g13⟩:=wU.out _ pU.out;go_wp2;all_goals (try (exfalso;go_light;simp_all;done));go_ret;exact ⟨rfl,(aa gL.out pU.out)⟩
  subst hcd;by_cases hk5:x.kind=5;rotate_left
  ·have q5:(x.kind==5)=false:=by simpa using hk5
   obtain rfl:R=0:=by rw[Am.out];simp[hk5]
   obtain ⟨LR,g0,g1,g2,g3,g4,g5,g6,g7,g8,g9,g10,g11,g12,g13⟩:=wU.out _ pU.out;go_wp2;all_goals (try (exfalso;go_light;simp_all;done));go_ret;exact ⟨rfl,(aa gL.out pU.out)⟩
  have Ms:=hide hk5;have q5:(x.kind==5)=true:=by simpa using hk5
  clear hk5;obtain ⟨LR,g0,g1,g2,g3,g4,g5,g6,g7,g8,g9,g10,g11,g12,g13⟩:=wU.out _ pU.out;go_wp2_with fail;refine (MC.out _).mono ?_;rintro e P9 ⟨rfl,IQ⟩;have DD:=hide (aa pU.out IQ);clear IQ;cases S1
  ·obtain rfl:R=1:=by rw[Am.out];simp[Ms.out]
   obtain ⟨LR,g0,g1,g2,g3,g4,g5,g6,g7,g8,g9,g10,g11,g12,g13⟩:=wU.out _ DD.out;go_wp2;all_goals (try (exfalso;go_light;simp_all;done));go_ret;exact ⟨rfl,(aa gL.out DD.out)⟩
  obtain ⟨LR,g0,g1,g2,g3,g4,g5,g6,g7,g8,g9,g10,g11,g12,g13⟩:=wU.out _ DD.out;go_wp2_with fail;refine (HS2.out _).mono ?_;rintro e Qa ⟨rfl,IR⟩;have DF:=hide (aa DD.out IR);clear IR;cases S2
  ·obtain rfl:R=1:=by rw[Am.out];simp[Ms.out]
   obtain ⟨LR,g0,g1,g2,g3,g4,g5,g6,g7,g8,g9,g10,g11,g12,g13⟩:=wU.out _ DF.out;go_wp2;all_goals (try (exfalso;go_light;simp_all;done));go_ret;exact ⟨rfl,(aa gL.out DF.out)⟩
  ·obtain rfl:R=0:=by rw[Am.out];simp
   obtain ⟨LR,g0,g1,g2,g3,g4,g5,g6,g7,g8,g9,g10,g11,g12,g13⟩:=wU.out _ DF.out;go_wp2;all_goals (try (exfalso;go_light;simp_all;done));go_ret;exact ⟨rfl,(aa gL.out DF.out)⟩
theorem ui (w:World)(x:Chk)(A:Option Addr)(n c:Nat)(hn:In w A n c x.cols)(A':Option Addr)(n' c':Nat)(hn':In w A' n' c' x.ocols)(bN:Option Addr)(n'' c'':Nat)(hq:In w bN n'' c'' x.cond)(hw:Words w)(rn:ByteArray)(A1:Option Addr)(n1 c1:Nat)(cols:List Col)(hc:In w A1 n1 c1 cols)(Ak:Option Addr)(nk ck:Nat)(A3:Option Addr)(n3 c3:Nat)(rows:List Ent)(hr:In w A3 n3 c3 rows)(on:ByteArray)(A2:Option Addr)(n2 c2:Nat)(ocols:List Col)(ho:In w A2 n2 c2 ocols)(Al:Option Addr)(nl cl:Nat)(A4:Option Addr)(n4 c4:Nat)(aG:List Ent)(hor:In w A4 n4 c4 aG)(A5:Option Addr)(n5 c5:Nat)(zs:List Zone)(hz:In w A5 n5 c5 zs)(hb0:n<=4096)(hb1:n'<=4096)(hb2:n1<=4096)(hb3:n2<=4096):
  Calls Tryz.prog 84 #[.agg (aL x A n c A' n' c' bN n'' c'').toArray,.agg #[.string rn,.slice A1 n1 c1,.slice Ak nk ck,.slice A3 n3 c3],.agg #[.string on,.slice A2 n2 c2,.slice Al nl cl,.slice A4 n4 c4],.slice A5 n5 c5] w
   λe w'=>e=.returned (.int .i64 (ed x cols ocols rows aG zs))/\Below w.heap.size w w':=by
 have HV:=hide λW hn hn' hq hw hc ho hz=>pz W x A n c hn A' n' c' hn' bN n'' c'' hq hw A1 n1 c1 cols hc A2 n2 c2 ocols ho A5 n5 c5 zs hz hb0 hb1 hb2 hb3;have HU:=hide λW=>lF W x.kind;have HT1:=hide λW hc hr=>lQ W rn A1 n1 c1 cols hc Ak nk ck A3 n3 c3 rows hr;have HT2:=hide λW hc hr=>lQ W on A2 n2 c2 ocols hc Al nl cl A4 n4 c4 aG hr;have HD:=hide (show ed x cols ocols rows aG zs=if dN x cols ocols zs≠0 then dN x cols ocols zs else if dz cols rows≠0 then dz cols rows else if kg x.kind=true then dz ocols aG else 0 from rfl);obtain ⟨R,hR⟩: ∃R,ed x cols ocols rows aG zs=R:=⟨_,rfl⟩;obtain ⟨E1,hE1⟩: ∃R,dN x cols ocols zs=R:=⟨_,rfl⟩;obtain ⟨E2,hE2⟩: ∃R,dz cols rows=R:=⟨_,rfl⟩;obtain ⟨E3,rP⟩: ∃R,dz ocols aG=R:=⟨_,rfl⟩;obtain ⟨U,hU⟩: ∃R,kg x.kind=R:=⟨_,rfl⟩;rw[hR,hE1,hE2,rP,hU]at HD;rw[hE1]at HV;rw[hE2]at HT1;rw[rP]at HT2;rw[hU]at HU;rw[hR];clear hR hE1 hE2 rP hU;simp only[aL]at HV⊢;go_enter Tryz.func84,Tryz.ntmps84;have HN:=hide hn;clear hn;have fM:=hide hn';clear hn';have HQ:=hide hq;clear hq;have HW:=hide hw;clear hw;have HC:=hide hc;clear hc;have HO:=hide ho;clear ho;have HZ:=hide hz;clear hz;have HR:=hide hr;clear hr;have uT:=hide hor;clear hor;go_wp2_with fail;obtain ⟨W3,hW3,jJ,iB,Fp⟩:=iY w x A n c A' n' c' bN n'' c'' rn A1 n1 c1 Ak nk ck A3 n3 c3 on A2 n2 c2 Al nl cl A4 n4 c4;rw[<-hW3];clear hW3;have nM:=hide iB;clear iB;obtain ⟨⟨LR,g0,g1,g2,g3,g4,g5,g6,g7,g8,g9,g10,g11,g12,g13⟩,⟨L2,r0,r1,r2,r3⟩,L3,s0,s1,s2,s3⟩:=Fp.out _ (Below.refl _ _);go_wp2_with fail;refine (HV.out _ (HN.out.below nM.out) (fM.out.below nM.out) (HQ.out.below nM.out) (HW.out.below nM.out) (HC.out.below nM.out) (HO.out.below nM.out) (HZ.out.below nM.out)).mono ?_;rintro e Qb ⟨rfl,IU⟩;have AX:=hide IU;clear IU;by_cases h1:E1=0;rotate_left
 ·have q1:(E1==0)=false:=by simpa using h1
  obtain rfl:R=E1:=by rw[HD.out,if_pos h1]
  obtain ⟨⟨LR,g0,g1,g2,g3,g4,g5,g6,g7,g8,g9,g10,g11,g12,g13⟩,⟨L2,r0,r1,r2,r3⟩,L3,s0,s1,s2,s3⟩:=Fp.out _ AX.out;go_wp2;all_goals (try (exfalso;go_light;simp_all;done));go_ret;exact ⟨rfl,(aa nM.out AX.out)⟩
 subst h1;obtain ⟨⟨LR,g0,g1,g2,g3,g4,g5,g6,g7,g8,g9,g10,g11,g12,g13⟩,⟨L2,r0,r1,r2,r3⟩,L3,s0,s1,s2,s3⟩:=Fp.out _ AX.out;go_wp2_with fail;have GN:=hide (aa nM.out AX.out);refine (HT1.out _ (HC.out.below GN.out) (HR.out.below GN.out)).mono ?_;rintro e Qc ⟨rfl,IV⟩;have DI:=hide (aa AX.out IV);clear IV;by_cases h2:E2=0;rotate_left
 ·have q2:(E2==0)=false:=by simpa using h2
  obtain rfl:R=E2:=by rw[HD.out];simp[h2]
  obtain ⟨⟨LR,g0,g1,g2,g3,g4,g5,g6,g7,g8,g9,g10,g11,g12,g13⟩,⟨L2,r0,r1,r2,r3⟩,L3,s0,s1,s2,s3⟩:=Fp.out _ DI.out;go_wp2;all_goals (try (exfalso;go_light;simp_all;done));go_ret;exact ⟨rfl,(aa nM.out DI.out)⟩
 subst h2;obtain ⟨⟨LR,g0,g1,g2,g3,g4,g5,g6,g7,g8,g9,g10,g11,g12,g13⟩,⟨L2,r0,r1,r2,r3⟩,L3,s0,s1,s2,s3⟩:=Fp.out _ DI.out;go_wp2_with fail;refine (HU.out _).mono ?_;rintro e Qd ⟨rfl,IW⟩;have AY:=hide (aa DI.out IW);clear IW;cases U
 ·obtain rfl:R=0:=by rw[HD.out];simp
  obtain ⟨⟨LR,g0,g1,g2,g3,g4,g5,g6,g7,g8,g9,g10,g11,g12,g13⟩,⟨L2,r0,r1,r2,r3⟩,L3,s0,s1,s2,s3⟩:=Fp.out _ AY.out;go_wp2;all_goals (try (exfalso;go_light;simp_all;done));go_ret;exact ⟨rfl,(aa nM.out AY.out)⟩
 ·obtain rfl:R=E3:=by rw[HD.out];simp
  obtain ⟨⟨LR,g0,g1,g2,g3,g4,g5,g6,g7,g8,g9,g10,g11,g12,g13⟩,⟨L2,r0,r1,r2,r3⟩,L3,s0,s1,s2,s3⟩:=Fp.out _ AY.out;go_wp2_with fail;have GQ:=hide (aa nM.out AY.out);refine (HT2.out _ (HO.out.below GQ.out) (uT.out.below GQ.out)).mono ?_;rintro e Qe ⟨rfl,IX⟩;have Ir:=hide (aa AY.out IX);clear IX;obtain ⟨⟨LR,g0,g1,g2,g3,g4,g5,g6,g7,g8,g9,g10,g11,g12,g13⟩,⟨L2,r0,r1,r2,r3⟩,L3,s0,s1,s2,s3⟩:=Fp.out _ Ir.out;go_wp2;all_goals (try (exfalso;go_light;simp_all;done));go_ret;exact ⟨rfl,(aa nM.out Ir.out)⟩
end Go.Proofs.YtopjjlmfilgngaaGreatDoor
