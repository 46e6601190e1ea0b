/-
  check.Validate, check.checkAll. (Printed by gen_chka.py.)
-/
import Derived.Test.YtopjjlmfilgngaaGreatDoorChkV
import Derived.Test.YtopjjlmfilgngaaGreatDoorGai
namespace Go.Proofs.YtopjjlmfilgngaaGreatDoor
set_option maxHeartbeats 4000000
set_option maxRecDepth 100000
open Go.RowKit
set_option linter.unusedSimpArgs false
set_option linter.unusedVariables false
theorem ib (x:Chk)(cols ocols:List Col)(zs:List Zone)(h1:¬(x.kind<0\/6<x.kind\/x.policy<0\/2<x.policy))(h2:¬(x.policy=0/\(x.kind=5\/x.kind=6))):
  aN x cols ocols zs=if aC cols≠0 then aC cols else if jg x.kind=false then jK x cols ocols else if gu x cols zs≠0 then gu x cols zs else if x.kind=5/\(dh x.ln x.ld&&dh x.mn x.md)=false then 1 else 0:=by
 rw[aN,if_neg h1,if_neg h2]
theorem xJ (w:World)(x:Chk)(A:Option Addr)(n c:Nat)(hn:In w A n c x.cols)(A':Option Addr)(n' c':Nat)(hn':In w A' n' c' x.ocols)(aX:Option Addr)(n'' c'':Nat)(hq:In w aX n'' c'' x.cond)(hw:Words w)(A1:Option Addr)(n1 c1:Nat)(cols:List Col)(hc:In w A1 n1 c1 cols)(A2:Option Addr)(n2 c2:Nat)(ocols:List Col)(ho:In w A2 n2 c2 ocols)(A5:Option Addr)(n5 c5:Nat)(zs:List Zone)(hz:In w A5 n5 c5 zs)(hb0:n<=4096)(hb1:n'<=4096)(hb2:n1<=4096)(hb3:n2<=4096):
  Calls Tryz.prog 113 #[.agg (aB x A n c A' n' c' aX n'' c'').toArray,.slice A1 n1 c1,.slice A2 n2 c2,.slice A5 n5 c5] w λe w'=>e=.returned (.int .i64 (aN x cols ocols zs))/\Below w.heap.size w w':=by
 have Ez:=hide λW hn hn' hc ho=>vZ W x A n c hn A' n' c' hn' aX n'' c'' A1 n1 c1 cols hc A2 n2 c2 ocols ho hb0 hb1 hb2 hb3;have Rj:=hide λW hq hw hc hz=>Bh W x A n c A' n' c' aX n'' c'' hq hw A1 n1 c1 cols hc A5 n5 c5 zs hz;have O9:=hide λW=>Lj W x.kind;have Um:=hide λW=>CJ W x.ln x.ld;have HS2:=hide λW=>CJ W x.mn x.md;have HP:=hide (ib x cols ocols zs);have HD:=hide (show aN x cols ocols zs=if x.kind<0\/6<x.kind\/x.policy<0\/2<x.policy then 1 else if x.policy=0/\(x.kind=5\/x.kind=6) then 7 else aN x cols ocols zs from by
  by_cases h1:x.kind<0\/6<x.kind\/x.policy<0\/2<x.policy
  ·rw[if_pos h1,aN,if_pos h1]
  ·rw[if_neg h1];by_cases h2:x.policy=0/\(x.kind=5\/x.kind=6)
   ·rw[if_pos h2,aN,if_neg h1,if_pos h2]
   ·rw[if_neg h2])
 obtain ⟨R,hR⟩: ∃R,aN x cols ocols zs=R:=⟨_,rfl⟩;rw[hR]at HD HP;rw[hR];obtain ⟨CE,Dv⟩: ∃C,aC cols=C:=⟨_,rfl⟩;obtain ⟨CK,ZK⟩: ∃C,jK x cols ocols=C:=⟨_,rfl⟩;obtain ⟨CD,ZJ⟩: ∃C,gu x cols zs=C:=⟨_,rfl⟩;obtain ⟨UC,ZP⟩: ∃U,jg x.kind=U:=⟨_,rfl⟩;obtain ⟨S1,hS1⟩: ∃S,dh x.ln x.ld=S:=⟨_,rfl⟩;obtain ⟨S2,hS2⟩: ∃S,dh x.mn x.md=S:=⟨_,rfl⟩;rw[Dv,ZK,ZJ,ZP,hS1,hS2]at HP;rw[ZK]at Ez;rw[ZJ]at Rj;rw[ZP]at O9;rw[hS1]at Um;rw[hS2]at HS2;have I4:=hide Dv;clear hR Dv ZK ZJ ZP hS1 hS2;have hA:(decide (x.kind<0)=true/\R=1)\/(decide (x.kind<0)=false/\decide (6<x.kind)=true/\R=1)\/(decide (x.kind<0)=false/\decide (6<x.kind)=false/\decide (x.policy<0)=true/\R=1)
   \/(decide (x.kind<0)=false/\decide (6<x.kind)=false/\decide (x.policy<0)=false/\decide (2<x.policy)=true/\R=1)
   \/(decide (x.kind<0)=false/\decide (6<x.kind)=false/\decide (x.policy<0)=false/\decide (2<x.policy)=false/\((((x.policy==0)=true/\(x.kind==5)=true/\R=7)\/((x.policy==0)=true/\(x.kind==5)=false/\(x.kind==6)=true/\R=7)
    \/((x.policy==0)=true/\(x.kind==5)=false/\(x.kind==6)=false/\Hid (R=if CE≠0 then CE else if UC=false then CK else if CD≠0 then CD else if x.kind=5/\(S1&&S2)=false then 1 else 0))\/((x.policy==0)=false/\Hid (R=if CE≠0 then CE else if UC=false then CK else if CD≠0 then CD else if x.kind=5/\(S1&&S2)=false then 1 else 0))))):=by
  by_cases a1:x.kind<0
  ·exact .inl ⟨by simpa using a1,by rw[HD.out,if_pos (.inl a1)]⟩
  by_cases a2:6<x.kind
  ·exact .inr (.inl ⟨by simpa using a1,by simpa using a2,by rw[HD.out,if_pos (.inr (.inl a2))]⟩)
  by_cases a3:x.policy<0
  ·exact .inr (.inr (.inl ⟨by simpa using a1,by simpa using a2,by simpa using a3,by rw[HD.out,if_pos (.inr (.inr (.inl a3)))]⟩))
  by_cases a4:2<x.policy
  ·exact .inr (.inr (.inr (.inl ⟨by simpa using a1,by simpa using a2,by simpa using a3,by simpa using a4,by rw[HD.out,if_pos (.inr (.inr (.inr a4)))]⟩)))
  have b:¬(x.kind<0\/6<x.kind\/x.policy<0\/2<x.policy):=by omega
  refine .inr (.inr (.inr (.inr ⟨by simpa using a1,by simpa using a2,by simpa using a3,by simpa using a4,?_⟩)));by_cases a5:x.policy=0
  ·by_cases a6:x.kind=5
   ·exact .inl ⟨by simpa using a5,by simpa using a6,by rw[HD.out,if_neg b,if_pos ⟨a5,.inl a6⟩]⟩
   by_cases a7:x.kind=6
   ·exact .inr (.inl ⟨by simpa using a5,by simpa using a6,by simpa using a7,by rw[HD.out,if_neg b,if_pos ⟨a5,.inr a7⟩]⟩)
   ·exact .inr (.inr (.inl ⟨by simpa using a5,by simpa using a6,by simpa using a7,hide (HP.out b (by omega))⟩))
  ·exact .inr (.inr (.inr ⟨by simpa using a5,hide (HP.out b (by omega))⟩))
 clear HD HP;simp only[aB]at Ez Rj⊢;rcases hA with ⟨d1,rfl⟩|⟨d1,d2,rfl⟩|⟨d1,d2,d3,rfl⟩|⟨d1,d2,d3,d4,rfl⟩|⟨d1,d2,d3,d4,⟨d5,d6,rfl⟩|⟨d5,d6,d7,rfl⟩|⟨d5,d6,d7,LD⟩|⟨d5,LD⟩⟩
 ·go_enter Tryz.func113,Tryz.ntmps113;go_wp2_with fail;obtain ⟨W1,hW1⟩: ∃W,W=w.alloc (.cells #[.string x.name,.string x.table,.int .i64 x.kind,.slice A n c,.string x.other,.slice A' n' c',.int .i64 x.low,.int .i64 x.high,.slice aX n'' c'',.int .i64 x.ln,.int .i64 x.ld,.int .i64 x.mn,.int .i64 x.md,.int .i64 x.policy] 48):=⟨_,rfl⟩;obtain ⟨hbW1,fZ,g0,g1,g2,g3,g4,g5,g6,g7,g8,g9,g10,g11,g12,g13⟩:=bT hW1 rfl;rw[<-hW1];clear hW1;have lN:=hide hbW1;clear hbW1;have LR:=lt_of_cell g0;go_wp2;all_goals (try (exfalso;go_light;simp_all;done));go_ret;exact ⟨rfl,lN.out⟩
 ·go_enter Tryz.func113,Tryz.ntmps113;go_wp2_with fail;obtain ⟨W1,hW1⟩: ∃W,W=w.alloc (.cells #[.string x.name,.string x.table,.int .i64 x.kind,.slice A n c,.string x.other,.slice A' n' c',.int .i64 x.low,.int .i64 x.high,.slice aX n'' c'',.int .i64 x.ln,.int .i64 x.ld,.int .i64 x.mn,.int .i64 x.md,.int .i64 x.policy] 48):=⟨_,rfl⟩;obtain ⟨hbW1,fZ,g0,g1,g2,g3,g4,g5,g6,g7,g8,g9,g10,g11,g12,g13⟩:=bT hW1 rfl;rw[<-hW1];clear hW1;have iM:=hide hbW1;clear hbW1;have LR:=lt_of_cell g0;go_wp2;all_goals (try (exfalso;go_light;simp_all;done));go_ret;exact ⟨rfl,iM.out⟩
 ·go_enter Tryz.func113,Tryz.ntmps113;go_wp2_with fail;obtain ⟨W1,hW1⟩: ∃W,W=w.alloc (.cells #[.string x.name,.string x.table,.int .i64 x.kind,.slice A n c,.string x.other,.slice A' n' c',.int .i64 x.low,.int .i64 x.high,.slice aX n'' c'',.int .i64 x.ln,.int .i64 x.ld,.int .i64 x.mn,.int .i64 x.md,.int .i64 x.policy] 48):=⟨_,rfl⟩;obtain ⟨hbW1,fZ,g0,g1,g2,g3,g4,g5,g6,g7,g8,g9,g10,g11,g12,g13⟩:=bT hW1 rfl;rw[<-hW1];clear hW1;have oF:=hide hbW1;clear hbW1;have LR:=lt_of_cell g0;go_wp2;all_goals (try (exfalso;go_light;simp_all;done));go_ret;exact ⟨rfl,oF.out⟩
 ·go_enter Tryz.func113,Tryz.ntmps113;go_wp2_with fail;obtain ⟨W1,hW1⟩: ∃W,W=w.alloc (.cells #[.string x.name,.string x.table,.int .i64 x.kind,.slice A n c,.string x.other,.slice A' n' c',.int .i64 x.low,.int .i64 x.high,.slice aX n'' c'',.int .i64 x.ln,.int .i64 x.ld,.int .i64 x.mn,.int .i64 x.md,.int .i64 x.policy] 48):=⟨_,rfl⟩;obtain ⟨hbW1,fZ,g0,g1,g2,g3,g4,g5,g6,g7,g8,g9,g10,g11,g12,g13⟩:=bT hW1 rfl;rw[<-hW1];clear hW1;have lW:=hide hbW1;clear hbW1;have LR:=lt_of_cell g0;go_wp2;all_goals (try (exfalso;go_light;simp_all;done));go_ret;exact ⟨rfl,lW.out⟩
 ·go_enter Tryz.func113,Tryz.ntmps113;go_wp2_with fail;obtain ⟨W1,hW1⟩: ∃W,W=w.alloc (.cells #[.string x.name,.string x.table,.int .i64 x.kind,.slice A n c,.string x.other,.slice A' n' c',.int .i64 x.low,.int .i64 x.high,.slice aX n'' c'',.int .i64 x.ln,.int .i64 x.ld,.int .i64 x.mn,.int .i64 x.md,.int .i64 x.policy] 48):=⟨_,rfl⟩;obtain ⟨hbW1,fZ,g0,g1,g2,g3,g4,g5,g6,g7,g8,g9,g10,g11,g12,g13⟩:=bT hW1 rfl;rw[<-hW1];clear hW1;have kL:=hide hbW1;clear hbW1;have LR:=lt_of_cell g0;go_wp2;all_goals (try (exfalso;go_light;simp_all;done));go_ret;exact ⟨rfl,kL.out⟩
 ·go_enter Tryz.func113,Tryz.ntmps113;go_wp2_with fail;obtain ⟨W1,hW1⟩: ∃W,W=w.alloc (.cells #[.string x.name,.string x.table,.int .i64 x.kind,.slice A n c,.string x.other,.slice A' n' c',.int .i64 x.low,.int .i64 x.high,.slice aX n'' c'',.int .i64 x.ln,.int .i64 x.ld,.int .i64 x.mn,.int .i64 x.md,.int .i64 x.policy] 48):=⟨_,rfl⟩;obtain ⟨hbW1,fZ,g0,g1,g2,g3,g4,g5,g6,g7,g8,g9,g10,g11,g12,g13⟩:=bT hW1 rfl;rw[<-hW1];clear hW1;have tQ:=hide hbW1;clear hbW1;have LR:=lt_of_cell g0;go_wp2;all_goals (try (exfalso;go_light;simp_all;done));go_ret;exact ⟨rfl,tQ.out⟩
 ·go_enter Tryz.func113,Tryz.ntmps113;have HN:=hide hn;clear hn;have fD:=hide hn';clear hn';have HQ:=hide hq;clear hq;have HW:=hide hw;clear hw;have HC:=hide hc;clear hc;have HO:=hide ho;clear ho;have HZ:=hide hz;clear hz;go_wp2_with fail;obtain ⟨W1,hW1⟩: ∃W,W=w.alloc (.cells #[.string x.name,.string x.table,.int .i64 x.kind,.slice A n c,.string x.other,.slice A' n' c',.int .i64 x.low,.int .i64 x.high,.slice aX n'' c'',.int .i64 x.ln,.int .i64 x.ld,.int .i64 x.mn,.int .i64 x.md,.int .i64 x.policy] 48):=⟨_,rfl⟩;obtain ⟨hbW1,fZ,g0,g1,g2,g3,g4,g5,g6,g7,g8,g9,g10,g11,g12,g13⟩:=bT hW1 rfl;rw[<-hW1];clear hW1;have kP:=hide hbW1;clear hbW1;have LR:=lt_of_cell g0;go_wp2_with fail;refine (oJ _ A1 n1 c1 cols (HC.out.below kP.out)).mono ?_;rintro e w8 ⟨rfl,x8⟩;have o9:=mr g0 g1 g2 g3 g4 g5 g6 g7 g8 g9 g10 g11 g12 g13;have fM:=hide x8;clear x8;rw[I4.out];by_cases hce:CE=0;rotate_left
  ·have q0:(CE != 0)=true:=by simpa using hce
   obtain rfl:R=CE:=by rw[LD.out,if_pos hce]
   obtain ⟨LR,g0,g1,g2,g3,g4,g5,g6,g7,g8,g9,g10,g11,g12,g13⟩:=o9.out _ fM.out;go_wp2;all_goals (try (exfalso;go_light;simp_all;done));go_ret;exact ⟨rfl,(aa kP.out fM.out)⟩
  subst hce;obtain ⟨LR,g0,g1,g2,g3,g4,g5,g6,g7,g8,g9,g10,g11,g12,g13⟩:=o9.out _ fM.out;go_wp2_with fail;refine (O9.out _).mono ?_;rintro e w11 ⟨rfl,zf⟩;have jD:=hide (aa fM.out zf);clear zf;cases UC
  ·obtain ⟨LR,g0,g1,g2,g3,g4,g5,g6,g7,g8,g9,g10,g11,g12,g13⟩:=o9.out _ jD.out;go_wp2_with fail;have qM:=hide (aa kP.out jD.out);refine (Ez.out _ (HN.out.below qM.out) (fD.out.below qM.out) (HC.out.below qM.out) (HO.out.below qM.out)).mono ?_;rintro e w13 ⟨rfl,zg⟩;have mX:=hide (aa jD.out zg);clear zg;obtain rfl:R=CK:=by rw[LD.out];simp
   obtain ⟨LR,g0,g1,g2,g3,g4,g5,g6,g7,g8,g9,g10,g11,g12,g13⟩:=o9.out _ mX.out;go_wp2;all_goals (try (exfalso;go_light;simp_all;done));go_ret;exact ⟨rfl,(aa kP.out mX.out)⟩
  obtain ⟨LR,g0,g1,g2,g3,g4,g5,g6,g7,g8,g9,g10,g11,g12,g13⟩:=o9.out _ jD.out;go_wp2_with fail;have Es:=hide (aa kP.out jD.out);refine (Rj.out _ (HQ.out.below Es.out) (HW.out.below Es.out) (HC.out.below Es.out) (HZ.out.below Es.out)).mono ?_;rintro e w16 ⟨rfl,VX⟩;have xH:=hide (aa jD.out VX);clear VX;by_cases hcd:CD=0;rotate_left
  ·have q0:(CD != 0)=true:=by simpa using hcd
   obtain rfl:R=CD:=by rw[LD.out];simp[hcd]
   obtain ⟨LR,g0,g1,g2,g3,g4,g5,g6,g7,g8,g9,g10,g11,g12,g13⟩:=o9.out _ xH.out;go_wp2;all_goals (try (exfalso;go_light;simp_all;done));go_ret;exact ⟨rfl,(aa kP.out xH.out)⟩
  subst hcd;by_cases hk5:x.kind=5;rotate_left
  ·have q5:(x.kind==5)=false:=by simpa using hk5
   obtain rfl:R=0:=by rw[LD.out];simp[hk5]
   obtain ⟨LR,g0,g1,g2,g3,g4,g5,g6,g7,g8,g9,g10,g11,g12,g13⟩:=o9.out _ xH.out;go_wp2;all_goals (try (exfalso;go_light;simp_all;done));go_ret;exact ⟨rfl,(aa kP.out xH.out)⟩
  rw[hk5]at d6;exact absurd d6 (by decide)
 ·go_enter Tryz.func113,Tryz.ntmps113;have HN:=hide hn;clear hn;have fD:=hide hn';clear hn';have HQ:=hide hq;clear hq;have HW:=hide hw;clear hw;have HC:=hide hc;clear hc;have HO:=hide ho;clear ho;have HZ:=hide hz;clear hz;go_wp2_with fail;obtain ⟨W1,hW1⟩: ∃W,W=w.alloc (.cells #[.string x.name,.string x.table,.int .i64 x.kind,.slice A n c,.string x.other,.slice A' n' c',.int .i64 x.low,.int .i64 x.high,.slice aX n'' c'',.int .i64 x.ln,.int .i64 x.ld,.int .i64 x.mn,.int .i64 x.md,.int .i64 x.policy] 48):=⟨_,rfl⟩;obtain ⟨hbW1,fZ,g0,g1,g2,g3,g4,g5,g6,g7,g8,g9,g10,g11,g12,g13⟩:=bT hW1 rfl;rw[<-hW1];clear hW1;have kN:=hide hbW1;clear hbW1;have LR:=lt_of_cell g0;go_wp2_with fail;refine (oJ _ A1 n1 c1 cols (HC.out.below kN.out)).mono ?_;rintro e Ua ⟨rfl,Nw⟩;have xM:=mr g0 g1 g2 g3 g4 g5 g6 g7 g8 g9 g10 g11 g12 g13;have gZ:=hide Nw;clear Nw;rw[I4.out];by_cases hce:CE=0;rotate_left
  ·have q0:(CE != 0)=true:=by simpa using hce
   obtain rfl:R=CE:=by rw[LD.out,if_pos hce]
   obtain ⟨LR,g0,g1,g2,g3,g4,g5,g6,g7,g8,g9,g10,g11,g12,g13⟩:=xM.out _ gZ.out;go_wp2;all_goals (try (exfalso;go_light;simp_all;done));go_ret;exact ⟨rfl,(aa kN.out gZ.out)⟩
  subst hce;obtain ⟨LR,g0,g1,g2,g3,g4,g5,g6,g7,g8,g9,g10,g11,g12,g13⟩:=xM.out _ gZ.out;go_wp2_with fail;refine (O9.out _).mono ?_;rintro e w23 ⟨rfl,Fw⟩;have fO:=hide (aa gZ.out Fw);clear Fw;cases UC
  ·obtain ⟨LR,g0,g1,g2,g3,g4,g5,g6,g7,g8,g9,g10,g11,g12,g13⟩:=xM.out _ fO.out;go_wp2_with fail;have yo:=hide (aa kN.out fO.out);refine (Ez.out _ (HN.out.below yo.out) (fD.out.below yo.out) (HC.out.below yo.out) (HO.out.below yo.out)).mono ?_;rintro e w25 ⟨rfl,Nz⟩;have mY:=hide (aa fO.out Nz);clear Nz;obtain rfl:R=CK:=by rw[LD.out];simp
   obtain ⟨LR,g0,g1,g2,g3,g4,g5,g6,g7,g8,g9,g10,g11,g12,g13⟩:=xM.out _ mY.out;go_wp2;all_goals (try (exfalso;go_light;simp_all;done));go_ret;exact ⟨rfl,(aa kN.out mY.out)⟩
  obtain ⟨LR,g0,g1,g2,g3,g4,g5,g6,g7,g8,g9,g10,g11,g12,g13⟩:=xM.out _ fO.out;go_wp2_with fail;have Et:=hide (aa kN.out fO.out);refine (Rj.out _ (HQ.out.below Et.out) (HW.out.below Et.out) (HC.out.below Et.out) (HZ.out.below Et.out)).mono ?_;rintro e w28 ⟨rfl,NC⟩;have yD:=hide (aa fO.out NC);clear NC;by_cases hcd:CD=0;rotate_left
  ·have q0:(CD != 0)=true:=by simpa using hcd
   obtain rfl:R=CD:=by rw[LD.out];simp[hcd]
   obtain ⟨LR,g0,g1,g2,g3,g4,g5,g6,g7,g8,g9,g10,g11,g12,g13⟩:=xM.out _ yD.out;go_wp2;all_goals (try (exfalso;go_light;simp_all;done));go_ret;exact ⟨rfl,(aa kN.out yD.out)⟩
  subst hcd;by_cases hk5:x.kind=5;rotate_left
  ·have q5:(x.kind==5)=false:=by simpa using hk5
   obtain rfl:R=0:=by rw[LD.out];simp[hk5]
   obtain ⟨LR,g0,g1,g2,g3,g4,g5,g6,g7,g8,g9,g10,g11,g12,g13⟩:=xM.out _ yD.out;go_wp2;all_goals (try (exfalso;go_light;simp_all;done));go_ret;exact ⟨rfl,(aa kN.out yD.out)⟩
  have HK5:=hide hk5;have q5:(x.kind==5)=true:=by simpa using hk5
  clear hk5;obtain ⟨LR,g0,g1,g2,g3,g4,g5,g6,g7,g8,g9,g10,g11,g12,g13⟩:=xM.out _ yD.out;go_wp2_with fail;refine (Um.out _).mono ?_;rintro e w31 ⟨rfl,V5⟩;have vT:=hide (aa yD.out V5);clear V5;cases S1
  ·obtain rfl:R=1:=by rw[LD.out];simp[HK5.out]
   obtain ⟨LR,g0,g1,g2,g3,g4,g5,g6,g7,g8,g9,g10,g11,g12,g13⟩:=xM.out _ vT.out;go_wp2;all_goals (try (exfalso;go_light;simp_all;done));go_ret;exact ⟨rfl,(aa kN.out vT.out)⟩
  obtain ⟨LR,g0,g1,g2,g3,g4,g5,g6,g7,g8,g9,g10,g11,g12,g13⟩:=xM.out _ vT.out;go_wp2_with fail;refine (HS2.out _).mono ?_;rintro e w33 ⟨rfl,ND⟩;have Dc:=hide (aa vT.out ND);clear ND;cases S2
  ·obtain rfl:R=1:=by rw[LD.out];simp[HK5.out]
   obtain ⟨LR,g0,g1,g2,g3,g4,g5,g6,g7,g8,g9,g10,g11,g12,g13⟩:=xM.out _ Dc.out;go_wp2;all_goals (try (exfalso;go_light;simp_all;done));go_ret;exact ⟨rfl,(aa kN.out Dc.out)⟩
  ·obtain rfl:R=0:=by rw[LD.out];simp
   obtain ⟨LR,g0,g1,g2,g3,g4,g5,g6,g7,g8,g9,g10,g11,g12,g13⟩:=xM.out _ Dc.out;go_wp2;all_goals (try (exfalso;go_light;simp_all;done));go_ret;exact ⟨rfl,(aa kN.out Dc.out)⟩
theorem Dl (w:World)(x:Chk)(A:Option Addr)(n c:Nat)(hn:In w A n c x.cols)(A':Option Addr)(n' c':Nat)(hn':In w A' n' c' x.ocols)(aX:Option Addr)(n'' c'':Nat)(hq:In w aX n'' c'' x.cond)(hw:Words w)(rn:ByteArray)(A1:Option Addr)(n1 c1:Nat)(cols:List Col)(hc:In w A1 n1 c1 cols)(Ak:Option Addr)(nk ck:Nat)(A3:Option Addr)(n3 c3:Nat)(rows:List Ent)(hr:In w A3 n3 c3 rows)(on:ByteArray)(A2:Option Addr)(n2 c2:Nat)(ocols:List Col)(ho:In w A2 n2 c2 ocols)(Al:Option Addr)(nl cl:Nat)(A4:Option Addr)(n4 c4:Nat)(orows:List Ent)(hor:In w A4 n4 c4 orows)(A5:Option Addr)(n5 c5:Nat)(zs:List Zone)(hz:In w A5 n5 c5 zs)(hb0:n<=4096)(hb1:n'<=4096)(hb2:n1<=4096)(hb3:n2<=4096):
  Calls Tryz.prog 84 #[.agg (aB x A n c A' n' c' aX n'' c'').toArray,.agg #[.string rn,.slice A1 n1 c1,.slice Ak nk ck,.slice A3 n3 c3],.agg #[.string on,.slice A2 n2 c2,.slice Al nl cl,.slice A4 n4 c4],.slice A5 n5 c5] w
   λe w'=>e=.returned (.int .i64 (dx x cols ocols rows orows zs))/\Below w.heap.size w w':=by
 have HV:=hide λW hn hn' hq hw hc ho hz=>xJ W x A n c hn A' n' c' hn' aX n'' c'' hq hw A1 n1 c1 cols hc A2 n2 c2 ocols ho A5 n5 c5 zs hz hb0 hb1 hb2 hb3;have HU:=hide λW=>sK W x.kind;have HT1:=hide λW hc hr=>tu W rn A1 n1 c1 cols hc Ak nk ck A3 n3 c3 rows hr;have HT2:=hide λW hc hr=>tu W on A2 n2 c2 ocols hc Al nl cl A4 n4 c4 orows hr;have HD:=hide (show dx x cols ocols rows orows zs=if aN x cols ocols zs≠0 then aN x cols ocols zs else if bP cols rows≠0 then bP cols rows else if gH x.kind=true then bP ocols orows else 0 from rfl);obtain ⟨R,hR⟩: ∃R,dx x cols ocols rows orows zs=R:=⟨_,rfl⟩;obtain ⟨E1,hE1⟩: ∃R,aN x cols ocols zs=R:=⟨_,rfl⟩;obtain ⟨E2,hE2⟩: ∃R,bP cols rows=R:=⟨_,rfl⟩;obtain ⟨E3,nX⟩: ∃R,bP ocols orows=R:=⟨_,rfl⟩;obtain ⟨U,hU⟩: ∃R,gH x.kind=R:=⟨_,rfl⟩;rw[hR,hE1,hE2,nX,hU]at HD;rw[hE1]at HV;rw[hE2]at HT1;rw[nX]at HT2;rw[hU]at HU;rw[hR];clear hR hE1 hE2 nX hU;simp only[aB]at HV⊢;go_enter Tryz.func84,Tryz.ntmps84;have HN:=hide hn;clear hn;have fD:=hide hn';clear hn';have HQ:=hide hq;clear hq;have HW:=hide hw;clear hw;have HC:=hide hc;clear hc;have HO:=hide ho;clear ho;have HZ:=hide hz;clear hz;have HR:=hide hr;clear hr;have uC:=hide hor;clear hor;go_wp2_with fail;obtain ⟨W3,hW3,kQ,fF,RP⟩:=gI w x A n c A' n' c' aX n'' c'' rn A1 n1 c1 Ak nk ck A3 n3 c3 on A2 n2 c2 Al nl cl A4 n4 c4;rw[<-hW3];clear hW3;have vU:=hide fF;clear fF;obtain ⟨⟨LR,g0,g1,g2,g3,g4,g5,g6,g7,g8,g9,g10,g11,g12,g13⟩,⟨L2,r0,r1,r2,r3⟩,L3,s0,s1,s2,s3⟩:=RP.out _ (Below.refl _ _);go_wp2_with fail;refine (HV.out _ (HN.out.below vU.out) (fD.out.below vU.out) (HQ.out.below vU.out) (HW.out.below vU.out) (HC.out.below vU.out) (HO.out.below vU.out) (HZ.out.below vU.out)).mono ?_;rintro e w37 ⟨rfl,V7⟩;have ME:=hide V7;clear V7;by_cases h1:E1=0;rotate_left
 ·have q1:(E1==0)=false:=by simpa using h1
  obtain rfl:R=E1:=by rw[HD.out,if_pos h1]
  obtain ⟨⟨LR,g0,g1,g2,g3,g4,g5,g6,g7,g8,g9,g10,g11,g12,g13⟩,⟨L2,r0,r1,r2,r3⟩,L3,s0,s1,s2,s3⟩:=RP.out _ ME.out;go_wp2;all_goals (try (exfalso;go_light;simp_all;done));go_ret;exact ⟨rfl,(aa vU.out ME.out)⟩
 subst h1;obtain ⟨⟨LR,g0,g1,g2,g3,g4,g5,g6,g7,g8,g9,g10,g11,g12,g13⟩,⟨L2,r0,r1,r2,r3⟩,L3,s0,s1,s2,s3⟩:=RP.out _ ME.out;go_wp2_with fail;have UM:=hide (aa vU.out ME.out);refine (HT1.out _ (HC.out.below UM.out) (HR.out.below UM.out)).mono ?_;rintro e w39 ⟨rfl,V8⟩;have PU:=hide (aa ME.out V8);clear V8;by_cases h2:E2=0;rotate_left
 ·have q2:(E2==0)=false:=by simpa using h2
  obtain rfl:R=E2:=by rw[HD.out];simp[h2]
  obtain ⟨⟨LR,g0,g1,g2,g3,g4,g5,g6,g7,g8,g9,g10,g11,g12,g13⟩,⟨L2,r0,r1,r2,r3⟩,L3,s0,s1,s2,s3⟩:=RP.out _ PU.out;go_wp2;all_goals (try (exfalso;go_light;simp_all;done));go_ret;exact ⟨rfl,(aa vU.out PU.out)⟩
 subst h2;obtain ⟨⟨LR,g0,g1,g2,g3,g4,g5,g6,g7,g8,g9,g10,g11,g12,g13⟩,⟨L2,r0,r1,r2,r3⟩,L3,s0,s1,s2,s3⟩:=RP.out _ PU.out;go_wp2_with fail;refine (HU.out _).mono ?_;rintro e w42 ⟨rfl,Wd⟩;have MF:=hide (aa PU.out Wd);clear Wd;cases U
 ·obtain rfl:R=0:=by rw[HD.out];simp
  obtain ⟨⟨LR,g0,g1,g2,g3,g4,g5,g6,g7,g8,g9,g10,g11,g12,g13⟩,⟨L2,r0,r1,r2,r3⟩,L3,s0,s1,s2,s3⟩:=RP.out _ MF.out;go_wp2;all_goals (try (exfalso;go_light;simp_all;done));go_ret;exact ⟨rfl,(aa vU.out MF.out)⟩
 ·obtain rfl:R=E3:=by rw[HD.out];simp
  obtain ⟨⟨LR,g0,g1,g2,g3,g4,g5,g6,g7,g8,g9,g10,g11,g12,g13⟩,⟨L2,r0,r1,r2,r3⟩,L3,s0,s1,s2,s3⟩:=RP.out _ MF.out;go_wp2_with fail;have UN:=hide (aa vU.out MF.out);refine (HT2.out _ (HO.out.below UN.out) (uC.out.below UN.out)).mono ?_;rintro e w44 ⟨rfl,We⟩;have VA:=hide (aa MF.out We);clear We;obtain ⟨⟨LR,g0,g1,g2,g3,g4,g5,g6,g7,g8,g9,g10,g11,g12,g13⟩,⟨L2,r0,r1,r2,r3⟩,L3,s0,s1,s2,s3⟩:=RP.out _ VA.out;go_wp2;all_goals (try (exfalso;go_light;simp_all;done));go_ret;exact ⟨rfl,(aa vU.out VA.out)⟩
end Go.Proofs.YtopjjlmfilgngaaGreatDoor
