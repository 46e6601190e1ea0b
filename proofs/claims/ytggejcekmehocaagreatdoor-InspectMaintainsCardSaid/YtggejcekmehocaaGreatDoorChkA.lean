/-
  check.Validate, check.checkAll. (Printed by gen_chka.py.)
-/
import Derived.Test.YtggejcekmehocaaGreatDoorChkV
import Derived.Test.YtggejcekmehocaaGreatDoorGap
namespace Go.Proofs.YtggejcekmehocaaGreatDoor
set_option maxHeartbeats 4000000
set_option maxRecDepth 100000
open Go.RowKit
set_option linter.unusedSimpArgs false
set_option linter.unusedVariables false
theorem gD (x:Chk)(cols ocols:List Col)(zs:List Zone)(h1:¬(x.kind<0\/6<x.kind\/x.policy<0\/2<x.policy))(h2:¬(x.policy=0/\(x.kind=5\/x.kind=6))):
  aR x cols ocols zs=if aA cols≠0 then aA cols else if iW x.kind=false then kz x cols ocols else if fH x cols zs≠0 then fH x cols zs else if x.kind=5/\(bK x.ln x.ld&&bK x.mn x.md)=false then 1 else 0:=by
 rw[aR,if_neg h1,if_neg h2]
theorem xX (w:World)(x:Chk)(A:Option Addr)(n c:Nat)(hn:In w A n c x.cols)(A':Option Addr)(n' c':Nat)(hn':In w A' n' c' x.ocols)(aK:Option Addr)(n'' c'':Nat)(hq:In w aK n'' c'' x.cond)(hw:Words w)(A1:Option Addr)(n1 c1:Nat)(cols:List Col)(hc:In w A1 n1 c1 cols)(A2:Option Addr)(n2 c2:Nat)(ocols:List Col)(ho:In w A2 n2 c2 ocols)(A5:Option Addr)(n5 c5:Nat)(zs:List Zone)(hz:In w A5 n5 c5 zs)(hb0:n<=4096)(hb1:n'<=4096)(hb2:n1<=4096)(hb3:n2<=4096):
  Calls Tryz.prog 90 #[.agg (ak x A n c A' n' c' aK n'' c'').toArray,.slice A1 n1 c1,.slice A2 n2 c2,.slice A5 n5 c5] w λe w'=>e=.returned (.int .i64 (aR x cols ocols zs))/\Below w.heap.size w w':=by
 have Sq:=hide λW hn hn' hc ho=>wN W x A n c hn A' n' c' hn' aK n'' c'' A1 n1 c1 cols hc A2 n2 c2 ocols ho hb0 hb1 hb2 hb3;have U8:=hide λW hq hw hc hz=>AA W x A n c A' n' c' aK n'' c'' hq hw A1 n1 c1 cols hc A5 n5 c5 zs hz;have Xe:=hide λW=>J4 W x.kind;have Sr:=hide λW=>BU W x.ln x.ld;have HS2:=hide λW=>BU W x.mn x.md;have HP:=hide (gD x cols ocols zs);have HD:=hide (show aR x cols ocols zs=if x.kind<0\/6<x.kind\/x.policy<0\/2<x.policy then 1 else if x.policy=0/\(x.kind=5\/x.kind=6) then 7 else aR x cols ocols zs from by
  by_cases h1:x.kind<0\/6<x.kind\/x.policy<0\/2<x.policy
  ·rw[if_pos h1,aR,if_pos h1]
  ·rw[if_neg h1];by_cases h2:x.policy=0/\(x.kind=5\/x.kind=6)
   ·rw[if_pos h2,aR,if_neg h1,if_pos h2]
   ·rw[if_neg h2])
 obtain ⟨R,hR⟩: ∃R,aR x cols ocols zs=R:=⟨_,rfl⟩;rw[hR]at HD HP;rw[hR];obtain ⟨CE,CY⟩: ∃C,aA cols=C:=⟨_,rfl⟩;obtain ⟨CK,Xz⟩: ∃C,kz x cols ocols=C:=⟨_,rfl⟩;obtain ⟨CD,Xy⟩: ∃C,fH x cols zs=C:=⟨_,rfl⟩;obtain ⟨UC,XC⟩: ∃U,iW x.kind=U:=⟨_,rfl⟩;obtain ⟨S1,hS1⟩: ∃S,bK x.ln x.ld=S:=⟨_,rfl⟩;obtain ⟨S2,hS2⟩: ∃S,bK x.mn x.md=S:=⟨_,rfl⟩;rw[CY,Xz,Xy,XC,hS1,hS2]at HP;rw[Xz]at Sq;rw[Xy]at U8;rw[XC]at Xe;rw[hS1]at Sr;rw[hS2]at HS2;have Hu:=hide CY;clear hR CY Xz Xy XC hS1 hS2;have hA:(decide (x.kind<0)=true/\R=1)\/(decide (x.kind<0)=false/\decide (6<x.kind)=true/\R=1)\/(decide (x.kind<0)=false/\decide (6<x.kind)=false/\decide (x.policy<0)=true/\R=1)
   \/(decide (x.kind<0)=false/\decide (6<x.kind)=false/\decide (x.policy<0)=false/\decide (2<x.policy)=true/\R=1)
   \/(decide (x.kind<0)=false/\decide (6<x.kind)=false/\decide (x.policy<0)=false/\decide (2<x.policy)=false/\((((x.policy==0)=true/\(x.kind==5)=true/\R=7)\/((x.policy==0)=true/\(x.kind==5)=false/\(x.kind==6)=true/\R=7)
    \/((x.policy==0)=true/\(x.kind==5)=false/\(x.kind==6)=false/\Hid (R=if CE≠0 then CE else if UC=false then CK else if CD≠0 then CD else if x.kind=5/\(S1&&S2)=false then 1 else 0))\/((x.policy==0)=false/\Hid (R=if CE≠0 then CE else if UC=false then CK else if CD≠0 then CD else if x.kind=5/\(S1&&S2)=false then 1 else 0))))):=by
  by_cases a1:x.kind<0
  ·exact .inl ⟨by simpa using a1,by rw[HD.out,if_pos (.inl a1)]⟩
  by_cases a2:6<x.kind
  ·exact .inr (.inl ⟨by simpa using a1,by simpa using a2,by rw[HD.out,if_pos (.inr (.inl a2))]⟩)
  by_cases a3:x.policy<0
  ·exact .inr (.inr (.inl ⟨by simpa using a1,by simpa using a2,by simpa using a3,by rw[HD.out,if_pos (.inr (.inr (.inl a3)))]⟩))
  by_cases a4:2<x.policy
  ·exact .inr (.inr (.inr (.inl ⟨by simpa using a1,by simpa using a2,by simpa using a3,by simpa using a4,by rw[HD.out,if_pos (.inr (.inr (.inr a4)))]⟩)))
  have b:¬(x.kind<0\/6<x.kind\/x.policy<0\/2<x.policy):=by omega
  refine .inr (.inr (.inr (.inr ⟨by simpa using a1,by simpa using a2,by simpa using a3,by simpa using a4,?_⟩)));by_cases a5:x.policy=0
  ·by_cases a6:x.kind=5
   ·exact .inl ⟨by simpa using a5,by simpa using a6,by rw[HD.out,if_neg b,if_pos ⟨a5,.inl a6⟩]⟩
   by_cases a7:x.kind=6
   ·exact .inr (.inl ⟨by simpa using a5,by simpa using a6,by simpa using a7,by rw[HD.out,if_neg b,if_pos ⟨a5,.inr a7⟩]⟩)
   ·exact .inr (.inr (.inl ⟨by simpa using a5,by simpa using a6,by simpa using a7,hide (HP.out b (by omega))⟩))
  ·exact .inr (.inr (.inr ⟨by simpa using a5,hide (HP.out b (by omega))⟩))
 clear HD HP;simp only[ak]at Sq U8⊢;rcases hA with ⟨d1,rfl⟩|⟨d1,d2,rfl⟩|⟨d1,d2,d3,rfl⟩|⟨d1,d2,d3,d4,rfl⟩|⟨d1,d2,d3,d4,⟨d5,d6,rfl⟩|⟨d5,d6,d7,rfl⟩|⟨d5,d6,d7,Kg⟩|⟨d5,Kg⟩⟩
 ·go_enter Tryz.func90,Tryz.ntmps90;go_wp2_with fail;obtain ⟨W1,hW1⟩: ∃W,W=w.alloc (.cells #[.string x.name,.string x.table,.int .i64 x.kind,.slice A n c,.string x.other,.slice A' n' c',.int .i64 x.low,.int .i64 x.high,.slice aK n'' c'',.int .i64 x.ln,.int .i64 x.ld,.int .i64 x.mn,.int .i64 x.md,.int .i64 x.policy] 27):=⟨_,rfl⟩;obtain ⟨hbW1,gB,g0,g1,g2,g3,g4,g5,g6,g7,g8,g9,g10,g11,g12,g13⟩:=bM hW1 rfl;rw[<-hW1];clear hW1;have p8:=hide hbW1;clear hbW1;have LR:=lt_of_cell g0;go_wp2;all_goals (try (exfalso;go_light;simp_all;done));go_ret;exact ⟨rfl,p8.out⟩
 ·go_enter Tryz.func90,Tryz.ntmps90;go_wp2_with fail;obtain ⟨W1,hW1⟩: ∃W,W=w.alloc (.cells #[.string x.name,.string x.table,.int .i64 x.kind,.slice A n c,.string x.other,.slice A' n' c',.int .i64 x.low,.int .i64 x.high,.slice aK n'' c'',.int .i64 x.ln,.int .i64 x.ld,.int .i64 x.mn,.int .i64 x.md,.int .i64 x.policy] 27):=⟨_,rfl⟩;obtain ⟨hbW1,gB,g0,g1,g2,g3,g4,g5,g6,g7,g8,g9,g10,g11,g12,g13⟩:=bM hW1 rfl;rw[<-hW1];clear hW1;have fq:=hide hbW1;clear hbW1;have LR:=lt_of_cell g0;go_wp2;all_goals (try (exfalso;go_light;simp_all;done));go_ret;exact ⟨rfl,fq.out⟩
 ·go_enter Tryz.func90,Tryz.ntmps90;go_wp2_with fail;obtain ⟨W1,hW1⟩: ∃W,W=w.alloc (.cells #[.string x.name,.string x.table,.int .i64 x.kind,.slice A n c,.string x.other,.slice A' n' c',.int .i64 x.low,.int .i64 x.high,.slice aK n'' c'',.int .i64 x.ln,.int .i64 x.ld,.int .i64 x.mn,.int .i64 x.md,.int .i64 x.policy] 27):=⟨_,rfl⟩;obtain ⟨hbW1,gB,g0,g1,g2,g3,g4,g5,g6,g7,g8,g9,g10,g11,g12,g13⟩:=bM hW1 rfl;rw[<-hW1];clear hW1;have uH:=hide hbW1;clear hbW1;have LR:=lt_of_cell g0;go_wp2;all_goals (try (exfalso;go_light;simp_all;done));go_ret;exact ⟨rfl,uH.out⟩
 ·go_enter Tryz.func90,Tryz.ntmps90;go_wp2_with fail;obtain ⟨W1,hW1⟩: ∃W,W=w.alloc (.cells #[.string x.name,.string x.table,.int .i64 x.kind,.slice A n c,.string x.other,.slice A' n' c',.int .i64 x.low,.int .i64 x.high,.slice aK n'' c'',.int .i64 x.ln,.int .i64 x.ld,.int .i64 x.mn,.int .i64 x.md,.int .i64 x.policy] 27):=⟨_,rfl⟩;obtain ⟨hbW1,gB,g0,g1,g2,g3,g4,g5,g6,g7,g8,g9,g10,g11,g12,g13⟩:=bM hW1 rfl;rw[<-hW1];clear hW1;have kK:=hide hbW1;clear hbW1;have LR:=lt_of_cell g0;go_wp2;all_goals (try (exfalso;go_light;simp_all;done));go_ret;exact ⟨rfl,kK.out⟩
 ·go_enter Tryz.func90,Tryz.ntmps90;go_wp2_with fail;obtain ⟨W1,hW1⟩: ∃W,W=w.alloc (.cells #[.string x.name,.string x.table,.int .i64 x.kind,.slice A n c,.string x.other,.slice A' n' c',.int .i64 x.low,.int .i64 x.high,.slice aK n'' c'',.int .i64 x.ln,.int .i64 x.ld,.int .i64 x.mn,.int .i64 x.md,.int .i64 x.policy] 27):=⟨_,rfl⟩;obtain ⟨hbW1,gB,g0,g1,g2,g3,g4,g5,g6,g7,g8,g9,g10,g11,g12,g13⟩:=bM hW1 rfl;rw[<-hW1];clear hW1;have qj:=hide hbW1;clear hbW1;have LR:=lt_of_cell g0;go_wp2;all_goals (try (exfalso;go_light;simp_all;done));go_ret;exact ⟨rfl,qj.out⟩
 ·go_enter Tryz.func90,Tryz.ntmps90;go_wp2_with fail;obtain ⟨W1,hW1⟩: ∃W,W=w.alloc (.cells #[.string x.name,.string x.table,.int .i64 x.kind,.slice A n c,.string x.other,.slice A' n' c',.int .i64 x.low,.int .i64 x.high,.slice aK n'' c'',.int .i64 x.ln,.int .i64 x.ld,.int .i64 x.mn,.int .i64 x.md,.int .i64 x.policy] 27):=⟨_,rfl⟩;obtain ⟨hbW1,gB,g0,g1,g2,g3,g4,g5,g6,g7,g8,g9,g10,g11,g12,g13⟩:=bM hW1 rfl;rw[<-hW1];clear hW1;have ul:=hide hbW1;clear hbW1;have LR:=lt_of_cell g0;go_wp2;all_goals (try (exfalso;go_light;simp_all;done));go_ret;exact ⟨rfl,ul.out⟩
 ·go_enter Tryz.func90,Tryz.ntmps90;have HN:=hide hn;clear hn;have eY:=hide hn';clear hn';have HQ:=hide hq;clear hq;have HW:=hide hw;clear hw;have HC:=hide hc;clear hc;have HO:=hide ho;clear ho;have HZ:=hide hz;clear hz;go_wp2_with fail;obtain ⟨W1,hW1⟩: ∃W,W=w.alloc (.cells #[.string x.name,.string x.table,.int .i64 x.kind,.slice A n c,.string x.other,.slice A' n' c',.int .i64 x.low,.int .i64 x.high,.slice aK n'' c'',.int .i64 x.ln,.int .i64 x.ld,.int .i64 x.mn,.int .i64 x.md,.int .i64 x.policy] 27):=⟨_,rfl⟩;obtain ⟨hbW1,gB,g0,g1,g2,g3,g4,g5,g6,g7,g8,g9,g10,g11,g12,g13⟩:=bM hW1 rfl;rw[<-hW1];clear hW1;have mH:=hide hbW1;clear hbW1;have LR:=lt_of_cell g0;go_wp2_with fail;refine (pG _ A1 n1 c1 cols (HC.out.below mH.out)).mono ?_;rintro e w8 ⟨rfl,RL⟩;have o9:=iE g0 g1 g2 g3 g4 g5 g6 g7 g8 g9 g10 g11 g12 g13;have gL:=hide RL;clear RL;rw[Hu.out];by_cases hce:CE=0;rotate_left
  ·have q0:(CE != 0)=true:=by simpa using hce
   obtain rfl:R=CE:=by rw[Kg.out,if_pos hce]
   obtain ⟨LR,g0,g1,g2,g3,g4,g5,g6,g7,g8,g9,g10,g11,g12,g13⟩:=o9.out _ gL.out;go_wp2;all_goals (try (exfalso;go_light;simp_all;done));go_ret;exact ⟨rfl,(aa mH.out gL.out)⟩
  subst hce;obtain ⟨LR,g0,g1,g2,g3,g4,g5,g6,g7,g8,g9,g10,g11,g12,g13⟩:=o9.out _ gL.out;go_wp2_with fail;refine (Xe.out _).mono ?_;rintro e Hq ⟨rfl,fT⟩;have jw:=hide (aa gL.out fT);clear fT;cases UC
  ·obtain ⟨LR,g0,g1,g2,g3,g4,g5,g6,g7,g8,g9,g10,g11,g12,g13⟩:=o9.out _ jw.out;go_wp2_with fail;have yF:=hide (aa mH.out jw.out);refine (Sq.out _ (HN.out.below yF.out) (eY.out.below yF.out) (HC.out.below yF.out) (HO.out.below yF.out)).mono ?_;rintro e Yd ⟨rfl,nG⟩;have Av:=hide (aa jw.out nG);clear nG;obtain rfl:R=CK:=by rw[Kg.out];simp
   obtain ⟨LR,g0,g1,g2,g3,g4,g5,g6,g7,g8,g9,g10,g11,g12,g13⟩:=o9.out _ Av.out;go_wp2;all_goals (try (exfalso;go_light;simp_all;done));go_ret;exact ⟨rfl,(aa mH.out Av.out)⟩
  obtain ⟨LR,g0,g1,g2,g3,g4,g5,g6,g7,g8,g9,g10,g11,g12,g13⟩:=o9.out _ jw.out;go_wp2_with fail;have qa:=hide (aa mH.out jw.out);refine (U8.out _ (HQ.out.below qa.out) (HW.out.below qa.out) (HC.out.below qa.out) (HZ.out.below qa.out)).mono ?_;rintro e w16 ⟨rfl,x8⟩;have xU:=hide (aa jw.out x8);clear x8;by_cases hcd:CD=0;rotate_left
  ·have q0:(CD != 0)=true:=by simpa using hcd
   obtain rfl:R=CD:=by rw[Kg.out];simp[hcd]
   obtain ⟨LR,g0,g1,g2,g3,g4,g5,g6,g7,g8,g9,g10,g11,g12,g13⟩:=o9.out _ xU.out;go_wp2;all_goals (try (exfalso;go_light;simp_all;done));go_ret;exact ⟨rfl,(aa mH.out xU.out)⟩
  subst hcd;by_cases hk5:x.kind=5;rotate_left
  ·have q5:(x.kind==5)=false:=by simpa using hk5
   obtain rfl:R=0:=by rw[Kg.out];simp[hk5]
   obtain ⟨LR,g0,g1,g2,g3,g4,g5,g6,g7,g8,g9,g10,g11,g12,g13⟩:=o9.out _ xU.out;go_wp2;all_goals (try (exfalso;go_light;simp_all;done));go_ret;exact ⟨rfl,(aa mH.out xU.out)⟩
  rw[hk5]at d6;exact absurd d6 (by decide)
 ·go_enter Tryz.func90,Tryz.ntmps90;have HN:=hide hn;clear hn;have eY:=hide hn';clear hn';have HQ:=hide hq;clear hq;have HW:=hide hw;clear hw;have HC:=hide hc;clear hc;have HO:=hide ho;clear ho;have HZ:=hide hz;clear hz;go_wp2_with fail;obtain ⟨W1,hW1⟩: ∃W,W=w.alloc (.cells #[.string x.name,.string x.table,.int .i64 x.kind,.slice A n c,.string x.other,.slice A' n' c',.int .i64 x.low,.int .i64 x.high,.slice aK n'' c'',.int .i64 x.ln,.int .i64 x.ld,.int .i64 x.mn,.int .i64 x.md,.int .i64 x.policy] 27):=⟨_,rfl⟩;obtain ⟨hbW1,gB,g0,g1,g2,g3,g4,g5,g6,g7,g8,g9,g10,g11,g12,g13⟩:=bM hW1 rfl;rw[<-hW1];clear hW1;have dW:=hide hbW1;clear hbW1;have LR:=lt_of_cell g0;go_wp2_with fail;refine (pG _ A1 n1 c1 cols (HC.out.below dW.out)).mono ?_;rintro e Ql ⟨rfl,Ez⟩;have AU:=iE g0 g1 g2 g3 g4 g5 g6 g7 g8 g9 g10 g11 g12 g13;have mG:=hide Ez;clear Ez;rw[Hu.out];by_cases hce:CE=0;rotate_left
  ·have q0:(CE != 0)=true:=by simpa using hce
   obtain rfl:R=CE:=by rw[Kg.out,if_pos hce]
   obtain ⟨LR,g0,g1,g2,g3,g4,g5,g6,g7,g8,g9,g10,g11,g12,g13⟩:=AU.out _ mG.out;go_wp2;all_goals (try (exfalso;go_light;simp_all;done));go_ret;exact ⟨rfl,(aa dW.out mG.out)⟩
  subst hce;obtain ⟨LR,g0,g1,g2,g3,g4,g5,g6,g7,g8,g9,g10,g11,g12,g13⟩:=AU.out _ mG.out;go_wp2_with fail;refine (Xe.out _).mono ?_;rintro e w23 ⟨rfl,Mg⟩;have iA:=hide (aa mG.out Mg);clear Mg;cases UC
  ·obtain ⟨LR,g0,g1,g2,g3,g4,g5,g6,g7,g8,g9,g10,g11,g12,g13⟩:=AU.out _ iA.out;go_wp2_with fail;have uj:=hide (aa dW.out iA.out);refine (Sq.out _ (HN.out.below uj.out) (eY.out.below uj.out) (HC.out.below uj.out) (HO.out.below uj.out)).mono ?_;rintro e Ye ⟨rfl,EA⟩;have mf:=hide (aa iA.out EA);clear EA;obtain rfl:R=CK:=by rw[Kg.out];simp
   obtain ⟨LR,g0,g1,g2,g3,g4,g5,g6,g7,g8,g9,g10,g11,g12,g13⟩:=AU.out _ mf.out;go_wp2;all_goals (try (exfalso;go_light;simp_all;done));go_ret;exact ⟨rfl,(aa dW.out mf.out)⟩
  obtain ⟨LR,g0,g1,g2,g3,g4,g5,g6,g7,g8,g9,g10,g11,g12,g13⟩:=AU.out _ iA.out;go_wp2_with fail;have IQ:=hide (aa dW.out iA.out);refine (U8.out _ (HQ.out.below IQ.out) (HW.out.below IQ.out) (HC.out.below IQ.out) (HZ.out.below IQ.out)).mono ?_;rintro e w28 ⟨rfl,Mh⟩;have yN:=hide (aa iA.out Mh);clear Mh;by_cases hcd:CD=0;rotate_left
  ·have q0:(CD != 0)=true:=by simpa using hcd
   obtain rfl:R=CD:=by rw[Kg.out];simp[hcd]
   obtain ⟨LR,g0,g1,g2,g3,g4,g5,g6,g7,g8,g9,g10,g11,g12,g13⟩:=AU.out _ yN.out;go_wp2;all_goals (try (exfalso;go_light;simp_all;done));go_ret;exact ⟨rfl,(aa dW.out yN.out)⟩
  subst hcd;by_cases hk5:x.kind=5;rotate_left
  ·have q5:(x.kind==5)=false:=by simpa using hk5
   obtain rfl:R=0:=by rw[Kg.out];simp[hk5]
   obtain ⟨LR,g0,g1,g2,g3,g4,g5,g6,g7,g8,g9,g10,g11,g12,g13⟩:=AU.out _ yN.out;go_wp2;all_goals (try (exfalso;go_light;simp_all;done));go_ret;exact ⟨rfl,(aa dW.out yN.out)⟩
  have Yl:=hide hk5;have q5:(x.kind==5)=true:=by simpa using hk5
  clear hk5;obtain ⟨LR,g0,g1,g2,g3,g4,g5,g6,g7,g8,g9,g10,g11,g12,g13⟩:=AU.out _ yN.out;go_wp2_with fail;refine (Sr.out _).mono ?_;rintro e w31 ⟨rfl,Us⟩;have wG:=hide (aa yN.out Us);clear Us;cases S1
  ·obtain rfl:R=1:=by rw[Kg.out];simp[Yl.out]
   obtain ⟨LR,g0,g1,g2,g3,g4,g5,g6,g7,g8,g9,g10,g11,g12,g13⟩:=AU.out _ wG.out;go_wp2;all_goals (try (exfalso;go_light;simp_all;done));go_ret;exact ⟨rfl,(aa dW.out wG.out)⟩
  obtain ⟨LR,g0,g1,g2,g3,g4,g5,g6,g7,g8,g9,g10,g11,g12,g13⟩:=AU.out _ wG.out;go_wp2_with fail;refine (HS2.out _).mono ?_;rintro e w33 ⟨rfl,Mj⟩;have Co:=hide (aa wG.out Mj);clear Mj;cases S2
  ·obtain rfl:R=1:=by rw[Kg.out];simp[Yl.out]
   obtain ⟨LR,g0,g1,g2,g3,g4,g5,g6,g7,g8,g9,g10,g11,g12,g13⟩:=AU.out _ Co.out;go_wp2;all_goals (try (exfalso;go_light;simp_all;done));go_ret;exact ⟨rfl,(aa dW.out Co.out)⟩
  ·obtain rfl:R=0:=by rw[Kg.out];simp
   obtain ⟨LR,g0,g1,g2,g3,g4,g5,g6,g7,g8,g9,g10,g11,g12,g13⟩:=AU.out _ Co.out;go_wp2;all_goals (try (exfalso;go_light;simp_all;done));go_ret;exact ⟨rfl,(aa dW.out Co.out)⟩
theorem CB (w:World)(x:Chk)(A:Option Addr)(n c:Nat)(hn:In w A n c x.cols)(A':Option Addr)(n' c':Nat)(hn':In w A' n' c' x.ocols)(aK:Option Addr)(n'' c'':Nat)(hq:In w aK n'' c'' x.cond)(hw:Words w)(rn:ByteArray)(A1:Option Addr)(n1 c1:Nat)(cols:List Col)(hc:In w A1 n1 c1 cols)(Ak:Option Addr)(nk ck:Nat)(A3:Option Addr)(n3 c3:Nat)(rows:List Ent)(hr:In w A3 n3 c3 rows)(on:ByteArray)(A2:Option Addr)(n2 c2:Nat)(ocols:List Col)(ho:In w A2 n2 c2 ocols)(Al:Option Addr)(nl cl:Nat)(A4:Option Addr)(n4 c4:Nat)(ag:List Ent)(hor:In w A4 n4 c4 ag)(A5:Option Addr)(n5 c5:Nat)(zs:List Zone)(hz:In w A5 n5 c5 zs)(hb0:n<=4096)(hb1:n'<=4096)(hb2:n1<=4096)(hb3:n2<=4096):
  Calls Tryz.prog 61 #[.agg (ak x A n c A' n' c' aK n'' c'').toArray,.agg #[.string rn,.slice A1 n1 c1,.slice Ak nk ck,.slice A3 n3 c3],.agg #[.string on,.slice A2 n2 c2,.slice Al nl cl,.slice A4 n4 c4],.slice A5 n5 c5] w
   λe w'=>e=.returned (.int .i64 (bf x cols ocols rows ag zs))/\Below w.heap.size w w':=by
 have HV:=hide λW hn hn' hq hw hc ho hz=>xX W x A n c hn A' n' c' hn' aK n'' c'' hq hw A1 n1 c1 cols hc A2 n2 c2 ocols ho A5 n5 c5 zs hz hb0 hb1 hb2 hb3;have HU:=hide λW=>tq W x.kind;have HT1:=hide λW hc hr=>tV W rn A1 n1 c1 cols hc Ak nk ck A3 n3 c3 rows hr;have HT2:=hide λW hc hr=>tV W on A2 n2 c2 ocols hc Al nl cl A4 n4 c4 ag hr;have HD:=hide (show bf x cols ocols rows ag zs=if aR x cols ocols zs≠0 then aR x cols ocols zs else if dh cols rows≠0 then dh cols rows else if cK x.kind=true then dh ocols ag else 0 from rfl);obtain ⟨R,hR⟩: ∃R,bf x cols ocols rows ag zs=R:=⟨_,rfl⟩;obtain ⟨E1,hE1⟩: ∃R,aR x cols ocols zs=R:=⟨_,rfl⟩;obtain ⟨E2,hE2⟩: ∃R,dh cols rows=R:=⟨_,rfl⟩;obtain ⟨E3,mQ⟩: ∃R,dh ocols ag=R:=⟨_,rfl⟩;obtain ⟨U,hU⟩: ∃R,cK x.kind=R:=⟨_,rfl⟩;rw[hR,hE1,hE2,mQ,hU]at HD;rw[hE1]at HV;rw[hE2]at HT1;rw[mQ]at HT2;rw[hU]at HU;rw[hR];clear hR hE1 hE2 mQ hU;simp only[ak]at HV⊢;go_enter Tryz.func61,Tryz.ntmps61;have HN:=hide hn;clear hn;have eY:=hide hn';clear hn';have HQ:=hide hq;clear hq;have HW:=hide hw;clear hw;have HC:=hide hc;clear hc;have HO:=hide ho;clear ho;have HZ:=hide hz;clear hz;have HR:=hide hr;clear hr;have qf:=hide hor;clear hor;go_wp2_with fail;obtain ⟨W3,hW3,gN,dF,IG⟩:=eu w x A n c A' n' c' aK n'' c'' rn A1 n1 c1 Ak nk ck A3 n3 c3 on A2 n2 c2 Al nl cl A4 n4 c4;rw[<-hW3];clear hW3;have iB:=hide dF;clear dF;obtain ⟨⟨LR,g0,g1,g2,g3,g4,g5,g6,g7,g8,g9,g10,g11,g12,g13⟩,⟨L2,r0,r1,r2,r3⟩,L3,s0,s1,s2,s3⟩:=IG.out _ (Below.refl _ _);go_wp2_with fail;refine (HV.out _ (HN.out.below iB.out) (eY.out.below iB.out) (HQ.out.below iB.out) (HW.out.below iB.out) (HC.out.below iB.out) (HO.out.below iB.out) (HZ.out.below iB.out)).mono ?_;rintro e Sj ⟨rfl,Mk⟩;have wH:=hide Mk;clear Mk;by_cases h1:E1=0;rotate_left
 ·have q1:(E1==0)=false:=by simpa using h1
  obtain rfl:R=E1:=by rw[HD.out,if_pos h1]
  obtain ⟨⟨LR,g0,g1,g2,g3,g4,g5,g6,g7,g8,g9,g10,g11,g12,g13⟩,⟨L2,r0,r1,r2,r3⟩,L3,s0,s1,s2,s3⟩:=IG.out _ wH.out;go_wp2;all_goals (try (exfalso;go_light;simp_all;done));go_ret;exact ⟨rfl,(aa iB.out wH.out)⟩
 subst h1;obtain ⟨⟨LR,g0,g1,g2,g3,g4,g5,g6,g7,g8,g9,g10,g11,g12,g13⟩,⟨L2,r0,r1,r2,r3⟩,L3,s0,s1,s2,s3⟩:=IG.out _ wH.out;go_wp2_with fail;have NG:=hide (aa iB.out wH.out);refine (HT1.out _ (HC.out.below NG.out) (HR.out.below NG.out)).mono ?_;rintro e w39 ⟨rfl,Ml⟩;have Oc:=hide (aa wH.out Ml);clear Ml;by_cases h2:E2=0;rotate_left
 ·have q2:(E2==0)=false:=by simpa using h2
  obtain rfl:R=E2:=by rw[HD.out];simp[h2]
  obtain ⟨⟨LR,g0,g1,g2,g3,g4,g5,g6,g7,g8,g9,g10,g11,g12,g13⟩,⟨L2,r0,r1,r2,r3⟩,L3,s0,s1,s2,s3⟩:=IG.out _ Oc.out;go_wp2;all_goals (try (exfalso;go_light;simp_all;done));go_ret;exact ⟨rfl,(aa iB.out Oc.out)⟩
 subst h2;obtain ⟨⟨LR,g0,g1,g2,g3,g4,g5,g6,g7,g8,g9,g10,g11,g12,g13⟩,⟨L2,r0,r1,r2,r3⟩,L3,s0,s1,s2,s3⟩:=IG.out _ Oc.out;go_wp2_with fail;refine (HU.out _).mono ?_;rintro e w42 ⟨rfl,Ux⟩;have KU:=hide (aa Oc.out Ux);clear Ux;cases U
 ·obtain rfl:R=0:=by rw[HD.out];simp
  obtain ⟨⟨LR,g0,g1,g2,g3,g4,g5,g6,g7,g8,g9,g10,g11,g12,g13⟩,⟨L2,r0,r1,r2,r3⟩,L3,s0,s1,s2,s3⟩:=IG.out _ KU.out;go_wp2;all_goals (try (exfalso;go_light;simp_all;done));go_ret;exact ⟨rfl,(aa iB.out KU.out)⟩
 ·obtain rfl:R=E3:=by rw[HD.out];simp
  obtain ⟨⟨LR,g0,g1,g2,g3,g4,g5,g6,g7,g8,g9,g10,g11,g12,g13⟩,⟨L2,r0,r1,r2,r3⟩,L3,s0,s1,s2,s3⟩:=IG.out _ KU.out;go_wp2_with fail;have SQ:=hide (aa iB.out KU.out);refine (HT2.out _ (HO.out.below SQ.out) (qf.out.below SQ.out)).mono ?_;rintro e w44 ⟨rfl,Uz⟩;have TV:=hide (aa KU.out Uz);clear Uz;obtain ⟨⟨LR,g0,g1,g2,g3,g4,g5,g6,g7,g8,g9,g10,g11,g12,g13⟩,⟨L2,r0,r1,r2,r3⟩,L3,s0,s1,s2,s3⟩:=IG.out _ TV.out;go_wp2;all_goals (try (exfalso;go_light;simp_all;done));go_ret;exact ⟨rfl,(aa iB.out TV.out)⟩
end Go.Proofs.YtggejcekmehocaaGreatDoor
