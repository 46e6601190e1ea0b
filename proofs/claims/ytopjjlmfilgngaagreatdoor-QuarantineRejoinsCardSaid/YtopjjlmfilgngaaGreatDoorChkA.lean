/-
  check.Validate, check.checkAll. (Printed by gen_chka.py.)
-/
import Derived.Test.YtopjjlmfilgngaaGreatDoorChkV
import Derived.Test.YtopjjlmfilgngaaGreatDoorGai
namespace Go.Proofs.YtopjjlmfilgngaaGreatDoor
set_option maxHeartbeats 4000000
set_option maxRecDepth 100000
open Go.RowKit
set_option linter.unusedSimpArgs false
set_option linter.unusedVariables false
theorem wT (x:Chk)(cols ocols:List Col)(zs:List Zone)(h1:¬(x.kind<0\/6<x.kind\/x.policy<0\/2<x.policy))(h2:¬(x.policy=0/\(x.kind=5\/x.kind=6))):
  bV x cols ocols zs=if aC cols≠0 then aC cols else if nS x.kind=false then iN x cols ocols else if jy x cols zs≠0 then jy x cols zs else if x.kind=5/\(iT x.ln x.ld&&iT x.mn x.md)=false then 1 else 0:=by
 rw[bV,if_neg h1,if_neg h2]
theorem rM (w:World)(x:Chk)(A:Option Addr)(n c:Nat)(hn:In w A n c x.cols)(A':Option Addr)(n' c':Nat)(hn':In w A' n' c' x.ocols)(bX:Option Addr)(n'' c'':Nat)(hq:In w bX n'' c'' x.cond)(hw:Words w)(A1:Option Addr)(n1 c1:Nat)(cols:List Col)(hc:In w A1 n1 c1 cols)(A2:Option Addr)(n2 c2:Nat)(ocols:List Col)(ho:In w A2 n2 c2 ocols)(A5:Option Addr)(n5 c5:Nat)(zs:List Zone)(hz:In w A5 n5 c5 zs)(hb0:n<=4096)(hb1:n'<=4096)(hb2:n1<=4096)(hb3:n2<=4096):
  Calls Tryz.prog 113 #[.agg (aR x A n c A' n' c' bX n'' c'').toArray,.slice A1 n1 c1,.slice A2 n2 c2,.slice A5 n5 c5] w λe w'=>e=.returned (.int .i64 (bV x cols ocols zs))/\Below w.heap.size w w':=by
 have Ef:=hide λW hn hn' hc ho=>qo W x A n c hn A' n' c' hn' bX n'' c'' A1 n1 c1 cols hc A2 n2 c2 ocols ho hb0 hb1 hb2 hb3;have JN:=hide λW hq hw hc hz=>uQ W x A n c A' n' c' bX n'' c'' hq hw A1 n1 c1 cols hc A5 n5 c5 zs hz;have QM:=hide λW=>DZ W x.kind;have Sv:=hide λW=>wH W x.ln x.ld;have HS2:=hide λW=>wH W x.mn x.md;have HP:=hide (wT x cols ocols zs);have HD:=hide (show bV x cols ocols zs=if x.kind<0\/6<x.kind\/x.policy<0\/2<x.policy then 1 else if x.policy=0/\(x.kind=5\/x.kind=6) then 7 else bV x cols ocols zs from by
  by_cases h1:x.kind<0\/6<x.kind\/x.policy<0\/2<x.policy
  ·rw[if_pos h1,bV,if_pos h1]
  ·rw[if_neg h1];by_cases h2:x.policy=0/\(x.kind=5\/x.kind=6)
   ·rw[if_pos h2,bV,if_neg h1,if_pos h2]
   ·rw[if_neg h2])
 obtain ⟨R,hR⟩: ∃R,bV x cols ocols zs=R:=⟨_,rfl⟩;rw[hR]at HD HP;rw[hR];obtain ⟨CE,Lv⟩: ∃C,aC cols=C:=⟨_,rfl⟩;obtain ⟨CK,Rf⟩: ∃C,iN x cols ocols=C:=⟨_,rfl⟩;obtain ⟨CD,Re⟩: ∃C,jy x cols zs=C:=⟨_,rfl⟩;obtain ⟨UC,Rl⟩: ∃U,nS x.kind=U:=⟨_,rfl⟩;obtain ⟨S1,hS1⟩: ∃S,iT x.ln x.ld=S:=⟨_,rfl⟩;obtain ⟨S2,hS2⟩: ∃S,iT x.mn x.md=S:=⟨_,rfl⟩;rw[Lv,Rf,Re,Rl,hS1,hS2]at HP;rw[Rf]at Ef;rw[Re]at JN;rw[Rl]at QM;rw[hS1]at Sv;rw[hS2]at HS2;have GH:=hide Lv;clear hR Lv Rf Re Rl hS1 hS2;have hA:(decide (x.kind<0)=true/\R=1)\/(decide (x.kind<0)=false/\decide (6<x.kind)=true/\R=1)\/(decide (x.kind<0)=false/\decide (6<x.kind)=false/\decide (x.policy<0)=true/\R=1)
   \/(decide (x.kind<0)=false/\decide (6<x.kind)=false/\decide (x.policy<0)=false/\decide (2<x.policy)=true/\R=1)
   \/(decide (x.kind<0)=false/\decide (6<x.kind)=false/\decide (x.policy<0)=false/\decide (2<x.policy)=false/\((((x.policy==0)=true/\(x.kind==5)=true/\R=7)\/((x.policy==0)=true/\(x.kind==5)=false/\(x.kind==6)=true/\R=7)
    \/((x.policy==0)=true/\(x.kind==5)=false/\(x.kind==6)=false/\Hid (R=if CE≠0 then CE else if UC=false then CK else if CD≠0 then CD else if x.kind=5/\(S1&&S2)=false then 1 else 0))\/((x.policy==0)=false/\Hid (R=if CE≠0 then CE else if UC=false then CK else if CD≠0 then CD else if x.kind=5/\(S1&&S2)=false then 1 else 0))))):=by
  by_cases a1:x.kind<0
  ·exact .inl ⟨by simpa using a1,by rw[HD.out,if_pos (.inl a1)]⟩
  by_cases a2:6<x.kind
  ·exact .inr (.inl ⟨by simpa using a1,by simpa using a2,by rw[HD.out,if_pos (.inr (.inl a2))]⟩)
  by_cases a3:x.policy<0
  ·exact .inr (.inr (.inl ⟨by simpa using a1,by simpa using a2,by simpa using a3,by rw[HD.out,if_pos (.inr (.inr (.inl a3)))]⟩))
  by_cases a4:2<x.policy
  ·exact .inr (.inr (.inr (.inl ⟨by simpa using a1,by simpa using a2,by simpa using a3,by simpa using a4,by rw[HD.out,if_pos (.inr (.inr (.inr a4)))]⟩)))
  have b:¬(x.kind<0\/6<x.kind\/x.policy<0\/2<x.policy):=by omega
  refine .inr (.inr (.inr (.inr ⟨by simpa using a1,by simpa using a2,by simpa using a3,by simpa using a4,?_⟩)));by_cases a5:x.policy=0
  ·by_cases a6:x.kind=5
   ·exact .inl ⟨by simpa using a5,by simpa using a6,by rw[HD.out,if_neg b,if_pos ⟨a5,.inl a6⟩]⟩
   by_cases a7:x.kind=6
   ·exact .inr (.inl ⟨by simpa using a5,by simpa using a6,by simpa using a7,by rw[HD.out,if_neg b,if_pos ⟨a5,.inr a7⟩]⟩)
   ·exact .inr (.inr (.inl ⟨by simpa using a5,by simpa using a6,by simpa using a7,hide (HP.out b (by omega))⟩))
  ·exact .inr (.inr (.inr ⟨by simpa using a5,hide (HP.out b (by omega))⟩))
 clear HD HP;simp only[aR]at Ef JN⊢;rcases hA with ⟨d1,rfl⟩|⟨d1,d2,rfl⟩|⟨d1,d2,d3,rfl⟩|⟨d1,d2,d3,d4,rfl⟩|⟨d1,d2,d3,d4,⟨d5,d6,rfl⟩|⟨d5,d6,d7,rfl⟩|⟨d5,d6,d7,Eh⟩|⟨d5,Eh⟩⟩
 ·go_enter Tryz.func113,Tryz.ntmps113;go_wp2_with fail;obtain ⟨W1,hW1⟩: ∃W,W=w.alloc (.cells #[.string x.name,.string x.table,.int .i64 x.kind,.slice A n c,.string x.other,.slice A' n' c',.int .i64 x.low,.int .i64 x.high,.slice bX n'' c'',.int .i64 x.ln,.int .i64 x.ld,.int .i64 x.mn,.int .i64 x.md,.int .i64 x.policy] 48):=⟨_,rfl⟩;obtain ⟨hbW1,gZ,g0,g1,g2,g3,g4,g5,g6,g7,g8,g9,g10,g11,g12,g13⟩:=dn hW1 rfl;rw[<-hW1];clear hW1;have lI:=hide hbW1;clear hbW1;have LR:=lt_of_cell g0;go_wp2;all_goals (try (exfalso;go_light;simp_all;done));go_ret;exact ⟨rfl,lI.out⟩
 ·go_enter Tryz.func113,Tryz.ntmps113;go_wp2_with fail;obtain ⟨W1,hW1⟩: ∃W,W=w.alloc (.cells #[.string x.name,.string x.table,.int .i64 x.kind,.slice A n c,.string x.other,.slice A' n' c',.int .i64 x.low,.int .i64 x.high,.slice bX n'' c'',.int .i64 x.ln,.int .i64 x.ld,.int .i64 x.mn,.int .i64 x.md,.int .i64 x.policy] 48):=⟨_,rfl⟩;obtain ⟨hbW1,gZ,g0,g1,g2,g3,g4,g5,g6,g7,g8,g9,g10,g11,g12,g13⟩:=dn hW1 rfl;rw[<-hW1];clear hW1;have jv:=hide hbW1;clear hbW1;have LR:=lt_of_cell g0;go_wp2;all_goals (try (exfalso;go_light;simp_all;done));go_ret;exact ⟨rfl,jv.out⟩
 ·go_enter Tryz.func113,Tryz.ntmps113;go_wp2_with fail;obtain ⟨W1,hW1⟩: ∃W,W=w.alloc (.cells #[.string x.name,.string x.table,.int .i64 x.kind,.slice A n c,.string x.other,.slice A' n' c',.int .i64 x.low,.int .i64 x.high,.slice bX n'' c'',.int .i64 x.ln,.int .i64 x.ld,.int .i64 x.mn,.int .i64 x.md,.int .i64 x.policy] 48):=⟨_,rfl⟩;obtain ⟨hbW1,gZ,g0,g1,g2,g3,g4,g5,g6,g7,g8,g9,g10,g11,g12,g13⟩:=dn hW1 rfl;rw[<-hW1];clear hW1;have lM:=hide hbW1;clear hbW1;have LR:=lt_of_cell g0;go_wp2;all_goals (try (exfalso;go_light;simp_all;done));go_ret;exact ⟨rfl,lM.out⟩
 ·go_enter Tryz.func113,Tryz.ntmps113;go_wp2_with fail;obtain ⟨W1,hW1⟩: ∃W,W=w.alloc (.cells #[.string x.name,.string x.table,.int .i64 x.kind,.slice A n c,.string x.other,.slice A' n' c',.int .i64 x.low,.int .i64 x.high,.slice bX n'' c'',.int .i64 x.ln,.int .i64 x.ld,.int .i64 x.mn,.int .i64 x.md,.int .i64 x.policy] 48):=⟨_,rfl⟩;obtain ⟨hbW1,gZ,g0,g1,g2,g3,g4,g5,g6,g7,g8,g9,g10,g11,g12,g13⟩:=dn hW1 rfl;rw[<-hW1];clear hW1;have ED:=hide hbW1;clear hbW1;have LR:=lt_of_cell g0;go_wp2;all_goals (try (exfalso;go_light;simp_all;done));go_ret;exact ⟨rfl,ED.out⟩
 ·go_enter Tryz.func113,Tryz.ntmps113;go_wp2_with fail;obtain ⟨W1,hW1⟩: ∃W,W=w.alloc (.cells #[.string x.name,.string x.table,.int .i64 x.kind,.slice A n c,.string x.other,.slice A' n' c',.int .i64 x.low,.int .i64 x.high,.slice bX n'' c'',.int .i64 x.ln,.int .i64 x.ld,.int .i64 x.mn,.int .i64 x.md,.int .i64 x.policy] 48):=⟨_,rfl⟩;obtain ⟨hbW1,gZ,g0,g1,g2,g3,g4,g5,g6,g7,g8,g9,g10,g11,g12,g13⟩:=dn hW1 rfl;rw[<-hW1];clear hW1;have nD:=hide hbW1;clear hbW1;have LR:=lt_of_cell g0;go_wp2;all_goals (try (exfalso;go_light;simp_all;done));go_ret;exact ⟨rfl,nD.out⟩
 ·go_enter Tryz.func113,Tryz.ntmps113;go_wp2_with fail;obtain ⟨W1,hW1⟩: ∃W,W=w.alloc (.cells #[.string x.name,.string x.table,.int .i64 x.kind,.slice A n c,.string x.other,.slice A' n' c',.int .i64 x.low,.int .i64 x.high,.slice bX n'' c'',.int .i64 x.ln,.int .i64 x.ld,.int .i64 x.mn,.int .i64 x.md,.int .i64 x.policy] 48):=⟨_,rfl⟩;obtain ⟨hbW1,gZ,g0,g1,g2,g3,g4,g5,g6,g7,g8,g9,g10,g11,g12,g13⟩:=dn hW1 rfl;rw[<-hW1];clear hW1;have BU:=hide hbW1;clear hbW1;have LR:=lt_of_cell g0;go_wp2;all_goals (try (exfalso;go_light;simp_all;done));go_ret;exact ⟨rfl,BU.out⟩
 ·go_enter Tryz.func113,Tryz.ntmps113;have HN:=hide hn;clear hn;have gF:=hide hn';clear hn';have HQ:=hide hq;clear hq;have HW:=hide hw;clear hw;have HC:=hide hc;clear hc;have HO:=hide ho;clear ho;have HZ:=hide hz;clear hz;go_wp2_with fail;obtain ⟨W1,hW1⟩: ∃W,W=w.alloc (.cells #[.string x.name,.string x.table,.int .i64 x.kind,.slice A n c,.string x.other,.slice A' n' c',.int .i64 x.low,.int .i64 x.high,.slice bX n'' c'',.int .i64 x.ln,.int .i64 x.ld,.int .i64 x.mn,.int .i64 x.md,.int .i64 x.policy] 48):=⟨_,rfl⟩;obtain ⟨hbW1,gZ,g0,g1,g2,g3,g4,g5,g6,g7,g8,g9,g10,g11,g12,g13⟩:=dn hW1 rfl;rw[<-hW1];clear hW1;have lJ:=hide hbW1;clear hbW1;have LR:=lt_of_cell g0;go_wp2_with fail;refine (jW _ A1 n1 c1 cols (HC.out.below lJ.out)).mono ?_;rintro e w8 ⟨rfl,Bd⟩;have o9:=nK g0 g1 g2 g3 g4 g5 g6 g7 g8 g9 g10 g11 g12 g13;have dC:=hide Bd;clear Bd;rw[GH.out];by_cases hce:CE=0;rotate_left
  ·have q0:(CE != 0)=true:=by simpa using hce
   obtain rfl:R=CE:=by rw[Eh.out,if_pos hce]
   obtain ⟨LR,g0,g1,g2,g3,g4,g5,g6,g7,g8,g9,g10,g11,g12,g13⟩:=o9.out _ dC.out;go_wp2;all_goals (try (exfalso;go_light;simp_all;done));go_ret;exact ⟨rfl,(aa lJ.out dC.out)⟩
  subst hce;obtain ⟨LR,g0,g1,g2,g3,g4,g5,g6,g7,g8,g9,g10,g11,g12,g13⟩:=o9.out _ dC.out;go_wp2_with fail;refine (QM.out _).mono ?_;rintro e TV ⟨rfl,og⟩;have jU:=hide (aa dC.out og);clear og;cases UC
  ·obtain ⟨LR,g0,g1,g2,g3,g4,g5,g6,g7,g8,g9,g10,g11,g12,g13⟩:=o9.out _ jU.out;go_wp2_with fail;have ni:=hide (aa lJ.out jU.out);refine (Ef.out _ (HN.out.below ni.out) (gF.out.below ni.out) (HC.out.below ni.out) (HO.out.below ni.out)).mono ?_;rintro e TW ⟨rfl,oh⟩;have nC:=hide (aa jU.out oh);clear oh;obtain rfl:R=CK:=by rw[Eh.out];simp
   obtain ⟨LR,g0,g1,g2,g3,g4,g5,g6,g7,g8,g9,g10,g11,g12,g13⟩:=o9.out _ nC.out;go_wp2;all_goals (try (exfalso;go_light;simp_all;done));go_ret;exact ⟨rfl,(aa lJ.out nC.out)⟩
  obtain ⟨LR,g0,g1,g2,g3,g4,g5,g6,g7,g8,g9,g10,g11,g12,g13⟩:=o9.out _ jU.out;go_wp2_with fail;have xM:=hide (aa lJ.out jU.out);refine (JN.out _ (HQ.out.below xM.out) (HW.out.below xM.out) (HC.out.below xM.out) (HZ.out.below xM.out)).mono ?_;rintro e w16 ⟨rfl,Od⟩;have yc:=hide (aa jU.out Od);clear Od;by_cases hcd:CD=0;rotate_left
  ·have q0:(CD != 0)=true:=by simpa using hcd
   obtain rfl:R=CD:=by rw[Eh.out];simp[hcd]
   obtain ⟨LR,g0,g1,g2,g3,g4,g5,g6,g7,g8,g9,g10,g11,g12,g13⟩:=o9.out _ yc.out;go_wp2;all_goals (try (exfalso;go_light;simp_all;done));go_ret;exact ⟨rfl,(aa lJ.out yc.out)⟩
  subst hcd;by_cases hk5:x.kind=5;rotate_left
  ·have q5:(x.kind==5)=false:=by simpa using hk5
   obtain rfl:R=0:=by rw[Eh.out];simp[hk5]
   obtain ⟨LR,g0,g1,g2,g3,g4,g5,g6,g7,g8,g9,g10,g11,g12,g13⟩:=o9.out _ yc.out;go_wp2;all_goals (try (exfalso;go_light;simp_all;done));go_ret;exact ⟨rfl,(aa lJ.out yc.out)⟩
  rw[hk5]at d6;exact absurd d6 (by decide)
 ·go_enter Tryz.func113,Tryz.ntmps113;have HN:=hide hn;clear hn;have gF:=hide hn';clear hn';have HQ:=hide hq;clear hq;have HW:=hide hw;clear hw;have HC:=hide hc;clear hc;have HO:=hide ho;clear ho;have HZ:=hide hz;clear hz;go_wp2_with fail;obtain ⟨W1,hW1⟩: ∃W,W=w.alloc (.cells #[.string x.name,.string x.table,.int .i64 x.kind,.slice A n c,.string x.other,.slice A' n' c',.int .i64 x.low,.int .i64 x.high,.slice bX n'' c'',.int .i64 x.ln,.int .i64 x.ld,.int .i64 x.mn,.int .i64 x.md,.int .i64 x.policy] 48):=⟨_,rfl⟩;obtain ⟨hbW1,gZ,g0,g1,g2,g3,g4,g5,g6,g7,g8,g9,g10,g11,g12,g13⟩:=dn hW1 rfl;rw[<-hW1];clear hW1;have kG:=hide hbW1;clear hbW1;have LR:=lt_of_cell g0;go_wp2_with fail;refine (jW _ A1 n1 c1 cols (HC.out.below kG.out)).mono ?_;rintro e L8 ⟨rfl,FD⟩;have zV:=nK g0 g1 g2 g3 g4 g5 g6 g7 g8 g9 g10 g11 g12 g13;have jq:=hide FD;clear FD;rw[GH.out];by_cases hce:CE=0;rotate_left
  ·have q0:(CE != 0)=true:=by simpa using hce
   obtain rfl:R=CE:=by rw[Eh.out,if_pos hce]
   obtain ⟨LR,g0,g1,g2,g3,g4,g5,g6,g7,g8,g9,g10,g11,g12,g13⟩:=zV.out _ jq.out;go_wp2;all_goals (try (exfalso;go_light;simp_all;done));go_ret;exact ⟨rfl,(aa kG.out jq.out)⟩
  subst hce;obtain ⟨LR,g0,g1,g2,g3,g4,g5,g6,g7,g8,g9,g10,g11,g12,g13⟩:=zV.out _ jq.out;go_wp2_with fail;refine (QM.out _).mono ?_;rintro e TY ⟨rfl,FE⟩;have gY:=hide (aa jq.out FE);clear FE;cases UC
  ·obtain ⟨LR,g0,g1,g2,g3,g4,g5,g6,g7,g8,g9,g10,g11,g12,g13⟩:=zV.out _ gY.out;go_wp2_with fail;have Cw:=hide (aa kG.out gY.out);refine (Ef.out _ (HN.out.below Cw.out) (gF.out.below Cw.out) (HC.out.below Cw.out) (HO.out.below Cw.out)).mono ?_;rintro e WT ⟨rfl,Og⟩;have rF:=hide (aa gY.out Og);clear Og;obtain rfl:R=CK:=by rw[Eh.out];simp
   obtain ⟨LR,g0,g1,g2,g3,g4,g5,g6,g7,g8,g9,g10,g11,g12,g13⟩:=zV.out _ rF.out;go_wp2;all_goals (try (exfalso;go_light;simp_all;done));go_ret;exact ⟨rfl,(aa kG.out rF.out)⟩
  obtain ⟨LR,g0,g1,g2,g3,g4,g5,g6,g7,g8,g9,g10,g11,g12,g13⟩:=zV.out _ gY.out;go_wp2_with fail;have Cx:=hide (aa kG.out gY.out);refine (JN.out _ (HQ.out.below Cx.out) (HW.out.below Cx.out) (HC.out.below Cx.out) (HZ.out.below Cx.out)).mono ?_;rintro e WU ⟨rfl,Oh⟩;have su:=hide (aa gY.out Oh);clear Oh;by_cases hcd:CD=0;rotate_left
  ·have q0:(CD != 0)=true:=by simpa using hcd
   obtain rfl:R=CD:=by rw[Eh.out];simp[hcd]
   obtain ⟨LR,g0,g1,g2,g3,g4,g5,g6,g7,g8,g9,g10,g11,g12,g13⟩:=zV.out _ su.out;go_wp2;all_goals (try (exfalso;go_light;simp_all;done));go_ret;exact ⟨rfl,(aa kG.out su.out)⟩
  subst hcd;by_cases hk5:x.kind=5;rotate_left
  ·have q5:(x.kind==5)=false:=by simpa using hk5
   obtain rfl:R=0:=by rw[Eh.out];simp[hk5]
   obtain ⟨LR,g0,g1,g2,g3,g4,g5,g6,g7,g8,g9,g10,g11,g12,g13⟩:=zV.out _ su.out;go_wp2;all_goals (try (exfalso;go_light;simp_all;done));go_ret;exact ⟨rfl,(aa kG.out su.out)⟩
  have Sd:=hide hk5;have q5:(x.kind==5)=true:=by simpa using hk5
  clear hk5;obtain ⟨LR,g0,g1,g2,g3,g4,g5,g6,g7,g8,g9,g10,g11,g12,g13⟩:=zV.out _ su.out;go_wp2_with fail;refine (Sv.out _).mono ?_;rintro e WV ⟨rfl,Oi⟩;have Ip:=hide (aa su.out Oi);clear Oi;cases S1
  ·obtain rfl:R=1:=by rw[Eh.out];simp[Sd.out]
   obtain ⟨LR,g0,g1,g2,g3,g4,g5,g6,g7,g8,g9,g10,g11,g12,g13⟩:=zV.out _ Ip.out;go_wp2;all_goals (try (exfalso;go_light;simp_all;done));go_ret;exact ⟨rfl,(aa kG.out Ip.out)⟩
  obtain ⟨LR,g0,g1,g2,g3,g4,g5,g6,g7,g8,g9,g10,g11,g12,g13⟩:=zV.out _ Ip.out;go_wp2_with fail;refine (HS2.out _).mono ?_;rintro e WW ⟨rfl,Oj⟩;have Iq:=hide (aa Ip.out Oj);clear Oj;cases S2
  ·obtain rfl:R=1:=by rw[Eh.out];simp[Sd.out]
   obtain ⟨LR,g0,g1,g2,g3,g4,g5,g6,g7,g8,g9,g10,g11,g12,g13⟩:=zV.out _ Iq.out;go_wp2;all_goals (try (exfalso;go_light;simp_all;done));go_ret;exact ⟨rfl,(aa kG.out Iq.out)⟩
  ·obtain rfl:R=0:=by rw[Eh.out];simp
   obtain ⟨LR,g0,g1,g2,g3,g4,g5,g6,g7,g8,g9,g10,g11,g12,g13⟩:=zV.out _ Iq.out;go_wp2;all_goals (try (exfalso;go_light;simp_all;done));go_ret;exact ⟨rfl,(aa kG.out Iq.out)⟩
theorem wS (w:World)(x:Chk)(A:Option Addr)(n c:Nat)(hn:In w A n c x.cols)(A':Option Addr)(n' c':Nat)(hn':In w A' n' c' x.ocols)(bX:Option Addr)(n'' c'':Nat)(hq:In w bX n'' c'' x.cond)(hw:Words w)(rn:ByteArray)(A1:Option Addr)(n1 c1:Nat)(cols:List Col)(hc:In w A1 n1 c1 cols)(Ak:Option Addr)(nk ck:Nat)(A3:Option Addr)(n3 c3:Nat)(rows:List Ent)(hr:In w A3 n3 c3 rows)(on:ByteArray)(A2:Option Addr)(n2 c2:Nat)(ocols:List Col)(ho:In w A2 n2 c2 ocols)(Al:Option Addr)(nl cl:Nat)(A4:Option Addr)(n4 c4:Nat)(orows:List Ent)(hor:In w A4 n4 c4 orows)(A5:Option Addr)(n5 c5:Nat)(zs:List Zone)(hz:In w A5 n5 c5 zs)(hb0:n<=4096)(hb1:n'<=4096)(hb2:n1<=4096)(hb3:n2<=4096):
  Calls Tryz.prog 84 #[.agg (aR x A n c A' n' c' bX n'' c'').toArray,.agg #[.string rn,.slice A1 n1 c1,.slice Ak nk ck,.slice A3 n3 c3],.agg #[.string on,.slice A2 n2 c2,.slice Al nl cl,.slice A4 n4 c4],.slice A5 n5 c5] w
   λe w'=>e=.returned (.int .i64 (dh x cols ocols rows orows zs))/\Below w.heap.size w w':=by
 have HV:=hide λW hn hn' hq hw hc ho hz=>rM W x A n c hn A' n' c' hn' bX n'' c'' hq hw A1 n1 c1 cols hc A2 n2 c2 ocols ho A5 n5 c5 zs hz hb0 hb1 hb2 hb3;have HU:=hide λW=>mZ W x.kind;have HT1:=hide λW hc hr=>nM W rn A1 n1 c1 cols hc Ak nk ck A3 n3 c3 rows hr;have HT2:=hide λW hc hr=>nM W on A2 n2 c2 ocols hc Al nl cl A4 n4 c4 orows hr;have HD:=hide (show dh x cols ocols rows orows zs=if bV x cols ocols zs≠0 then bV x cols ocols zs else if aQ cols rows≠0 then aQ cols rows else if fG x.kind=true then aQ ocols orows else 0 from rfl);obtain ⟨R,hR⟩: ∃R,dh x cols ocols rows orows zs=R:=⟨_,rfl⟩;obtain ⟨E1,hE1⟩: ∃R,bV x cols ocols zs=R:=⟨_,rfl⟩;obtain ⟨E2,hE2⟩: ∃R,aQ cols rows=R:=⟨_,rfl⟩;obtain ⟨E3,uU⟩: ∃R,aQ ocols orows=R:=⟨_,rfl⟩;obtain ⟨U,hU⟩: ∃R,fG x.kind=R:=⟨_,rfl⟩;rw[hR,hE1,hE2,uU,hU]at HD;rw[hE1]at HV;rw[hE2]at HT1;rw[uU]at HT2;rw[hU]at HU;rw[hR];clear hR hE1 hE2 uU hU;simp only[aR]at HV⊢;go_enter Tryz.func84,Tryz.ntmps84;have HN:=hide hn;clear hn;have gF:=hide hn';clear hn';have HQ:=hide hq;clear hq;have HW:=hide hw;clear hw;have HC:=hide hc;clear hc;have HO:=hide ho;clear ho;have HZ:=hide hz;clear hz;have HR:=hide hr;clear hr;have xR:=hide hor;clear hor;go_wp2_with fail;obtain ⟨W3,hW3,kI,jf,Kg⟩:=jK w x A n c A' n' c' bX n'' c'' rn A1 n1 c1 Ak nk ck A3 n3 c3 on A2 n2 c2 Al nl cl A4 n4 c4;rw[<-hW3];clear hW3;have qh:=hide jf;clear jf;obtain ⟨⟨LR,g0,g1,g2,g3,g4,g5,g6,g7,g8,g9,g10,g11,g12,g13⟩,⟨L2,r0,r1,r2,r3⟩,L3,s0,s1,s2,s3⟩:=Kg.out _ (Below.refl _ _);go_wp2_with fail;refine (HV.out _ (HN.out.below qh.out) (gF.out.below qh.out) (HQ.out.below qh.out) (HW.out.below qh.out) (HC.out.below qh.out) (HO.out.below qh.out) (HZ.out.below qh.out)).mono ?_;rintro e WX ⟨rfl,Ol⟩;have EC:=hide Ol;clear Ol;by_cases h1:E1=0;rotate_left
 ·have q1:(E1==0)=false:=by simpa using h1
  obtain rfl:R=E1:=by rw[HD.out,if_pos h1]
  obtain ⟨⟨LR,g0,g1,g2,g3,g4,g5,g6,g7,g8,g9,g10,g11,g12,g13⟩,⟨L2,r0,r1,r2,r3⟩,L3,s0,s1,s2,s3⟩:=Kg.out _ EC.out;go_wp2;all_goals (try (exfalso;go_light;simp_all;done));go_ret;exact ⟨rfl,(aa qh.out EC.out)⟩
 subst h1;obtain ⟨⟨LR,g0,g1,g2,g3,g4,g5,g6,g7,g8,g9,g10,g11,g12,g13⟩,⟨L2,r0,r1,r2,r3⟩,L3,s0,s1,s2,s3⟩:=Kg.out _ EC.out;go_wp2_with fail;have MP:=hide (aa qh.out EC.out);refine (HT1.out _ (HC.out.below MP.out) (HR.out.below MP.out)).mono ?_;rintro e WY ⟨rfl,Om⟩;have Ir:=hide (aa EC.out Om);clear Om;by_cases h2:E2=0;rotate_left
 ·have q2:(E2==0)=false:=by simpa using h2
  obtain rfl:R=E2:=by rw[HD.out];simp[h2]
  obtain ⟨⟨LR,g0,g1,g2,g3,g4,g5,g6,g7,g8,g9,g10,g11,g12,g13⟩,⟨L2,r0,r1,r2,r3⟩,L3,s0,s1,s2,s3⟩:=Kg.out _ Ir.out;go_wp2;all_goals (try (exfalso;go_light;simp_all;done));go_ret;exact ⟨rfl,(aa qh.out Ir.out)⟩
 subst h2;obtain ⟨⟨LR,g0,g1,g2,g3,g4,g5,g6,g7,g8,g9,g10,g11,g12,g13⟩,⟨L2,r0,r1,r2,r3⟩,L3,s0,s1,s2,s3⟩:=Kg.out _ Ir.out;go_wp2_with fail;refine (HU.out _).mono ?_;rintro e WZ ⟨rfl,Oo⟩;have EE:=hide (aa Ir.out Oo);clear Oo;cases U
 ·obtain rfl:R=0:=by rw[HD.out];simp
  obtain ⟨⟨LR,g0,g1,g2,g3,g4,g5,g6,g7,g8,g9,g10,g11,g12,g13⟩,⟨L2,r0,r1,r2,r3⟩,L3,s0,s1,s2,s3⟩:=Kg.out _ EE.out;go_wp2;all_goals (try (exfalso;go_light;simp_all;done));go_ret;exact ⟨rfl,(aa qh.out EE.out)⟩
 ·obtain rfl:R=E3:=by rw[HD.out];simp
  obtain ⟨⟨LR,g0,g1,g2,g3,g4,g5,g6,g7,g8,g9,g10,g11,g12,g13⟩,⟨L2,r0,r1,r2,r3⟩,L3,s0,s1,s2,s3⟩:=Kg.out _ EE.out;go_wp2_with fail;have MQ:=hide (aa qh.out EE.out);refine (HT2.out _ (HO.out.below MQ.out) (xR.out.below MQ.out)).mono ?_;rintro e Xa ⟨rfl,Oq⟩;have NR:=hide (aa EE.out Oq);clear Oq;obtain ⟨⟨LR,g0,g1,g2,g3,g4,g5,g6,g7,g8,g9,g10,g11,g12,g13⟩,⟨L2,r0,r1,r2,r3⟩,L3,s0,s1,s2,s3⟩:=Kg.out _ NR.out;go_wp2;all_goals (try (exfalso;go_light;simp_all;done));go_ret;exact ⟨rfl,(aa qh.out NR.out)⟩
end Go.Proofs.YtopjjlmfilgngaaGreatDoor
