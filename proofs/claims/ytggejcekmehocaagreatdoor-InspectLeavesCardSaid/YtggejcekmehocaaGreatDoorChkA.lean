/-
  check.Validate, check.checkAll. (Printed by gen_chka.py.)
-/
import Derived.Test.YtggejcekmehocaaGreatDoorChkV
import Derived.Test.YtggejcekmehocaaGreatDoorGar
namespace Go.Proofs.YtggejcekmehocaaGreatDoor
set_option maxHeartbeats 4000000
set_option maxRecDepth 100000
open Go.RowKit
set_option linter.unusedSimpArgs false
set_option linter.unusedVariables false
theorem chkErr_parts (x:Chk)(cols ocols:List Col)(zs:List Zone)(h1:¬(x.kind<0\/6<x.kind\/x.policy<0\/2<x.policy))(h2:¬(x.policy=0/\(x.kind=5\/x.kind=6))):
  chkErr x cols ocols zs=if colsErr cols≠0 then colsErr cols else if usesC x.kind=false then chkCols x cols ocols else if chkCond x cols zs≠0 then chkCond x cols zs else if x.kind=5/\(ratioOk x.ln x.ld&&ratioOk x.mn x.md)=false then 1 else 0:=by
 rw[chkErr,if_neg h1,if_neg h2]
theorem chkValidate_any (w:World)(x:Chk)(A:Option Addr)(n c:Nat)(hn:In w A n c x.cols)(A':Option Addr)(n' c':Nat)(hn':In w A' n' c' x.ocols)(A'':Option Addr)(n'' c'':Nat)(hq:In w A'' n'' c'' x.cond)(hw:Words w)(A1:Option Addr)(n1 c1:Nat)(cols:List Col)(hc:In w A1 n1 c1 cols)(A2:Option Addr)(n2 c2:Nat)(ocols:List Col)(ho:In w A2 n2 c2 ocols)(A5:Option Addr)(n5 c5:Nat)(zs:List Zone)(hz:In w A5 n5 c5 zs)(hb0:n<=4096)(hb1:n'<=4096)(hb2:n1<=4096)(hb3:n2<=4096):
  Calls Tryz.prog 90 #[.agg (chkCells x A n c A' n' c' A'' n'' c'').toArray,.slice A1 n1 c1,.slice A2 n2 c2,.slice A5 n5 c5] w λe w'=>e=.returned (.int .i64 (chkErr x cols ocols zs))/\Below w.heap.size w w':=by
 have HCC:=hide λW hn hn' hc ho=>checkColumns_any W x A n c hn A' n' c' hn' A'' n'' c'' A1 n1 c1 cols hc A2 n2 c2 ocols ho hb0 hb1 hb2 hb3
 have HCD:=hide λW hq hw hc hz=>checkCond_any W x A n c A' n' c' A'' n'' c'' hq hw A1 n1 c1 cols hc A5 n5 c5 zs hz
 have HUC:=hide λW=>usesC_any W x.kind
 have HS1:=hide λW=>share_any W x.ln x.ld
 have HS2:=hide λW=>share_any W x.mn x.md
 have HP:=hide (chkErr_parts x cols ocols zs)
 have HD:=hide (show chkErr x cols ocols zs=if x.kind<0\/6<x.kind\/x.policy<0\/2<x.policy then 1 else if x.policy=0/\(x.kind=5\/x.kind=6) then 7 else chkErr x cols ocols zs from by
  by_cases h1:x.kind<0\/6<x.kind\/x.policy<0\/2<x.policy
  ·rw[if_pos h1,chkErr,if_pos h1]
  ·rw[if_neg h1]
   by_cases h2:x.policy=0/\(x.kind=5\/x.kind=6)
   ·rw[if_pos h2,chkErr,if_neg h1,if_pos h2]
   ·rw[if_neg h2])
 obtain ⟨R,hR⟩: ∃R,chkErr x cols ocols zs=R:=⟨_,rfl⟩
 rw[hR]at HD HP
 rw[hR]
 obtain ⟨CE,hCE⟩: ∃C,colsErr cols=C:=⟨_,rfl⟩
 obtain ⟨CK,hCK⟩: ∃C,chkCols x cols ocols=C:=⟨_,rfl⟩
 obtain ⟨CD,hCD⟩: ∃C,chkCond x cols zs=C:=⟨_,rfl⟩
 obtain ⟨UC,hUC⟩: ∃U,usesC x.kind=U:=⟨_,rfl⟩
 obtain ⟨S1,hS1⟩: ∃S,ratioOk x.ln x.ld=S:=⟨_,rfl⟩
 obtain ⟨S2,hS2⟩: ∃S,ratioOk x.mn x.md=S:=⟨_,rfl⟩
 rw[hCE,hCK,hCD,hUC,hS1,hS2]at HP
 rw[hCK]at HCC
 rw[hCD]at HCD
 rw[hUC]at HUC
 rw[hS1]at HS1
 rw[hS2]at HS2
 have HCE:=hide hCE
 clear hR hCE hCK hCD hUC hS1 hS2
 have hA:(decide (x.kind<0)=true/\R=1)\/(decide (x.kind<0)=false/\decide (6<x.kind)=true/\R=1)\/(decide (x.kind<0)=false/\decide (6<x.kind)=false/\decide (x.policy<0)=true/\R=1)
   \/(decide (x.kind<0)=false/\decide (6<x.kind)=false/\decide (x.policy<0)=false/\decide (2<x.policy)=true/\R=1)
   \/(decide (x.kind<0)=false/\decide (6<x.kind)=false/\decide (x.policy<0)=false/\decide (2<x.policy)=false/\((((x.policy==0)=true/\(x.kind==5)=true/\R=7)\/((x.policy==0)=true/\(x.kind==5)=false/\(x.kind==6)=true/\R=7)
    \/((x.policy==0)=true/\(x.kind==5)=false/\(x.kind==6)=false/\Hid (R=if CE≠0 then CE else if UC=false then CK else if CD≠0 then CD else if x.kind=5/\(S1&&S2)=false then 1 else 0))\/((x.policy==0)=false/\Hid (R=if CE≠0 then CE else if UC=false then CK else if CD≠0 then CD else if x.kind=5/\(S1&&S2)=false then 1 else 0))))):=by
  by_cases a1:x.kind<0
  ·exact .inl ⟨by simpa using a1,by rw[HD.out,if_pos (.inl a1)]⟩
  by_cases a2:6<x.kind
  ·exact .inr (.inl ⟨by simpa using a1,by simpa using a2,by rw[HD.out,if_pos (.inr (.inl a2))]⟩)
  by_cases a3:x.policy<0
  ·exact .inr (.inr (.inl ⟨by simpa using a1,by simpa using a2,by simpa using a3,by rw[HD.out,if_pos (.inr (.inr (.inl a3)))]⟩))
  by_cases a4:2<x.policy
  ·exact .inr (.inr (.inr (.inl ⟨by simpa using a1,by simpa using a2,by simpa using a3,by simpa using a4,by rw[HD.out,if_pos (.inr (.inr (.inr a4)))]⟩)))
  have b:¬(x.kind<0\/6<x.kind\/x.policy<0\/2<x.policy):=by omega
  refine .inr (.inr (.inr (.inr ⟨by simpa using a1,by simpa using a2,by simpa using a3,by simpa using a4,?_⟩)))
  by_cases a5:x.policy=0
  ·by_cases a6:x.kind=5
   ·exact .inl ⟨by simpa using a5,by simpa using a6,by rw[HD.out,if_neg b,if_pos ⟨a5,.inl a6⟩]⟩
   by_cases a7:x.kind=6
   ·exact .inr (.inl ⟨by simpa using a5,by simpa using a6,by simpa using a7,by rw[HD.out,if_neg b,if_pos ⟨a5,.inr a7⟩]⟩)
   ·exact .inr (.inr (.inl ⟨by simpa using a5,by simpa using a6,by simpa using a7,hide (HP.out b (by omega))⟩))
  ·exact .inr (.inr (.inr ⟨by simpa using a5,hide (HP.out b (by omega))⟩))
 clear HD HP
 simp only[chkCells]at HCC HCD⊢
 rcases hA with ⟨d1,rfl⟩|⟨d1,d2,rfl⟩|⟨d1,d2,d3,rfl⟩|⟨d1,d2,d3,d4,rfl⟩|⟨d1,d2,d3,d4,⟨d5,d6,rfl⟩|⟨d5,d6,d7,rfl⟩|⟨d5,d6,d7,HPT⟩|⟨d5,HPT⟩⟩
 ·go_enter Tryz.func90,Tryz.ntmps90
  go_wp2_with fail
  obtain ⟨W1,hW1⟩: ∃W,W=w.alloc (.cells #[.string x.name,.string x.table,.int .i64 x.kind,.slice A n c,.string x.other,.slice A' n' c',.int .i64 x.low,.int .i64 x.high,.slice A'' n'' c'',.int .i64 x.ln,.int .i64 x.ld,.int .i64 x.mn,.int .i64 x.md,.int .i64 x.policy] 27):=⟨_,rfl⟩
  obtain ⟨hbW1,SZW1,g0,g1,g2,g3,g4,g5,g6,g7,g8,g9,g10,g11,g12,g13⟩:=boxed14 hW1 rfl
  rw[<-hW1]
  clear hW1
  have SG1:=hide hbW1
  clear hbW1
  have LR:=lt_of_cell g0
  go_wp2
  all_goals (try (exfalso;go_light;simp_all;done))
  go_ret
  exact ⟨rfl,SG1.out⟩
 ·go_enter Tryz.func90,Tryz.ntmps90
  go_wp2_with fail
  obtain ⟨W1,hW1⟩: ∃W,W=w.alloc (.cells #[.string x.name,.string x.table,.int .i64 x.kind,.slice A n c,.string x.other,.slice A' n' c',.int .i64 x.low,.int .i64 x.high,.slice A'' n'' c'',.int .i64 x.ln,.int .i64 x.ld,.int .i64 x.mn,.int .i64 x.md,.int .i64 x.policy] 27):=⟨_,rfl⟩
  obtain ⟨hbW1,SZW1,g0,g1,g2,g3,g4,g5,g6,g7,g8,g9,g10,g11,g12,g13⟩:=boxed14 hW1 rfl
  rw[<-hW1]
  clear hW1
  have SG2:=hide hbW1
  clear hbW1
  have LR:=lt_of_cell g0
  go_wp2
  all_goals (try (exfalso;go_light;simp_all;done))
  go_ret
  exact ⟨rfl,SG2.out⟩
 ·go_enter Tryz.func90,Tryz.ntmps90
  go_wp2_with fail
  obtain ⟨W1,hW1⟩: ∃W,W=w.alloc (.cells #[.string x.name,.string x.table,.int .i64 x.kind,.slice A n c,.string x.other,.slice A' n' c',.int .i64 x.low,.int .i64 x.high,.slice A'' n'' c'',.int .i64 x.ln,.int .i64 x.ld,.int .i64 x.mn,.int .i64 x.md,.int .i64 x.policy] 27):=⟨_,rfl⟩
  obtain ⟨hbW1,SZW1,g0,g1,g2,g3,g4,g5,g6,g7,g8,g9,g10,g11,g12,g13⟩:=boxed14 hW1 rfl
  rw[<-hW1]
  clear hW1
  have SG3:=hide hbW1
  clear hbW1
  have LR:=lt_of_cell g0
  go_wp2
  all_goals (try (exfalso;go_light;simp_all;done))
  go_ret
  exact ⟨rfl,SG3.out⟩
 ·go_enter Tryz.func90,Tryz.ntmps90
  go_wp2_with fail
  obtain ⟨W1,hW1⟩: ∃W,W=w.alloc (.cells #[.string x.name,.string x.table,.int .i64 x.kind,.slice A n c,.string x.other,.slice A' n' c',.int .i64 x.low,.int .i64 x.high,.slice A'' n'' c'',.int .i64 x.ln,.int .i64 x.ld,.int .i64 x.mn,.int .i64 x.md,.int .i64 x.policy] 27):=⟨_,rfl⟩
  obtain ⟨hbW1,SZW1,g0,g1,g2,g3,g4,g5,g6,g7,g8,g9,g10,g11,g12,g13⟩:=boxed14 hW1 rfl
  rw[<-hW1]
  clear hW1
  have SG4:=hide hbW1
  clear hbW1
  have LR:=lt_of_cell g0
  go_wp2
  all_goals (try (exfalso;go_light;simp_all;done))
  go_ret
  exact ⟨rfl,SG4.out⟩
 ·go_enter Tryz.func90,Tryz.ntmps90
  go_wp2_with fail
  obtain ⟨W1,hW1⟩: ∃W,W=w.alloc (.cells #[.string x.name,.string x.table,.int .i64 x.kind,.slice A n c,.string x.other,.slice A' n' c',.int .i64 x.low,.int .i64 x.high,.slice A'' n'' c'',.int .i64 x.ln,.int .i64 x.ld,.int .i64 x.mn,.int .i64 x.md,.int .i64 x.policy] 27):=⟨_,rfl⟩
  obtain ⟨hbW1,SZW1,g0,g1,g2,g3,g4,g5,g6,g7,g8,g9,g10,g11,g12,g13⟩:=boxed14 hW1 rfl
  rw[<-hW1]
  clear hW1
  have SG5:=hide hbW1
  clear hbW1
  have LR:=lt_of_cell g0
  go_wp2
  all_goals (try (exfalso;go_light;simp_all;done))
  go_ret
  exact ⟨rfl,SG5.out⟩
 ·go_enter Tryz.func90,Tryz.ntmps90
  go_wp2_with fail
  obtain ⟨W1,hW1⟩: ∃W,W=w.alloc (.cells #[.string x.name,.string x.table,.int .i64 x.kind,.slice A n c,.string x.other,.slice A' n' c',.int .i64 x.low,.int .i64 x.high,.slice A'' n'' c'',.int .i64 x.ln,.int .i64 x.ld,.int .i64 x.mn,.int .i64 x.md,.int .i64 x.policy] 27):=⟨_,rfl⟩
  obtain ⟨hbW1,SZW1,g0,g1,g2,g3,g4,g5,g6,g7,g8,g9,g10,g11,g12,g13⟩:=boxed14 hW1 rfl
  rw[<-hW1]
  clear hW1
  have SG6:=hide hbW1
  clear hbW1
  have LR:=lt_of_cell g0
  go_wp2
  all_goals (try (exfalso;go_light;simp_all;done))
  go_ret
  exact ⟨rfl,SG6.out⟩
 ·go_enter Tryz.func90,Tryz.ntmps90
  have HN:=hide hn
  clear hn
  have HN2:=hide hn'
  clear hn'
  have HQ:=hide hq
  clear hq
  have HW:=hide hw
  clear hw
  have HC:=hide hc
  clear hc
  have HO:=hide ho
  clear ho
  have HZ:=hide hz
  clear hz
  go_wp2_with fail
  obtain ⟨W1,hW1⟩: ∃W,W=w.alloc (.cells #[.string x.name,.string x.table,.int .i64 x.kind,.slice A n c,.string x.other,.slice A' n' c',.int .i64 x.low,.int .i64 x.high,.slice A'' n'' c'',.int .i64 x.ln,.int .i64 x.ld,.int .i64 x.mn,.int .i64 x.md,.int .i64 x.policy] 27):=⟨_,rfl⟩
  obtain ⟨hbW1,SZW1,g0,g1,g2,g3,g4,g5,g6,g7,g8,g9,g10,g11,g12,g13⟩:=boxed14 hW1 rfl
  rw[<-hW1]
  clear hW1
  have SG7:=hide hbW1
  clear hbW1
  have LR:=lt_of_cell g0
  go_wp2_with fail
  refine (cols_any _ A1 n1 c1 cols (HC.out.below SG7.out)).mono ?_
  rintro e w8 ⟨rfl,hb8⟩
  have o9:=bun14 g0 g1 g2 g3 g4 g5 g6 g7 g8 g9 g10 g11 g12 g13
  have SG10:=hide hb8
  clear hb8
  rw[HCE.out]
  by_cases hce:CE=0
  rotate_left
  ·have q0:(CE != 0)=true:=by simpa using hce
   obtain rfl:R=CE:=by rw[HPT.out,if_pos hce]
   obtain ⟨LR,g0,g1,g2,g3,g4,g5,g6,g7,g8,g9,g10,g11,g12,g13⟩:=o9.out _ SG10.out
   go_wp2
   all_goals (try (exfalso;go_light;simp_all;done))
   go_ret
   exact ⟨rfl,(below_trans SG7.out SG10.out)⟩
  subst hce
  obtain ⟨LR,g0,g1,g2,g3,g4,g5,g6,g7,g8,g9,g10,g11,g12,g13⟩:=o9.out _ SG10.out
  go_wp2_with fail
  refine (HUC.out _).mono ?_
  rintro e w11 ⟨rfl,hb11⟩
  have SG12:=hide (below_trans SG10.out hb11)
  clear hb11
  cases UC
  ·obtain ⟨LR,g0,g1,g2,g3,g4,g5,g6,g7,g8,g9,g10,g11,g12,g13⟩:=o9.out _ SG12.out
   go_wp2_with fail
   have BC14:=hide (below_trans SG7.out SG12.out)
   refine (HCC.out _ (HN.out.below BC14.out) (HN2.out.below BC14.out) (HC.out.below BC14.out) (HO.out.below BC14.out)).mono ?_
   rintro e w13 ⟨rfl,hb13⟩
   have SG15:=hide (below_trans SG12.out hb13)
   clear hb13
   obtain rfl:R=CK:=by rw[HPT.out];simp
   obtain ⟨LR,g0,g1,g2,g3,g4,g5,g6,g7,g8,g9,g10,g11,g12,g13⟩:=o9.out _ SG15.out
   go_wp2
   all_goals (try (exfalso;go_light;simp_all;done))
   go_ret
   exact ⟨rfl,(below_trans SG7.out SG15.out)⟩
  obtain ⟨LR,g0,g1,g2,g3,g4,g5,g6,g7,g8,g9,g10,g11,g12,g13⟩:=o9.out _ SG12.out
  go_wp2_with fail
  have BC17:=hide (below_trans SG7.out SG12.out)
  refine (HCD.out _ (HQ.out.below BC17.out) (HW.out.below BC17.out) (HC.out.below BC17.out) (HZ.out.below BC17.out)).mono ?_
  rintro e w16 ⟨rfl,hb16⟩
  have SG18:=hide (below_trans SG12.out hb16)
  clear hb16
  by_cases hcd:CD=0
  rotate_left
  ·have q0:(CD != 0)=true:=by simpa using hcd
   obtain rfl:R=CD:=by rw[HPT.out];simp[hcd]
   obtain ⟨LR,g0,g1,g2,g3,g4,g5,g6,g7,g8,g9,g10,g11,g12,g13⟩:=o9.out _ SG18.out
   go_wp2
   all_goals (try (exfalso;go_light;simp_all;done))
   go_ret
   exact ⟨rfl,(below_trans SG7.out SG18.out)⟩
  subst hcd
  by_cases hk5:x.kind=5
  rotate_left
  ·have q5:(x.kind==5)=false:=by simpa using hk5
   obtain rfl:R=0:=by rw[HPT.out];simp[hk5]
   obtain ⟨LR,g0,g1,g2,g3,g4,g5,g6,g7,g8,g9,g10,g11,g12,g13⟩:=o9.out _ SG18.out
   go_wp2
   all_goals (try (exfalso;go_light;simp_all;done))
   go_ret
   exact ⟨rfl,(below_trans SG7.out SG18.out)⟩
  rw[hk5]at d6
  exact absurd d6 (by decide)
 ·go_enter Tryz.func90,Tryz.ntmps90
  have HN:=hide hn
  clear hn
  have HN2:=hide hn'
  clear hn'
  have HQ:=hide hq
  clear hq
  have HW:=hide hw
  clear hw
  have HC:=hide hc
  clear hc
  have HO:=hide ho
  clear ho
  have HZ:=hide hz
  clear hz
  go_wp2_with fail
  obtain ⟨W1,hW1⟩: ∃W,W=w.alloc (.cells #[.string x.name,.string x.table,.int .i64 x.kind,.slice A n c,.string x.other,.slice A' n' c',.int .i64 x.low,.int .i64 x.high,.slice A'' n'' c'',.int .i64 x.ln,.int .i64 x.ld,.int .i64 x.mn,.int .i64 x.md,.int .i64 x.policy] 27):=⟨_,rfl⟩
  obtain ⟨hbW1,SZW1,g0,g1,g2,g3,g4,g5,g6,g7,g8,g9,g10,g11,g12,g13⟩:=boxed14 hW1 rfl
  rw[<-hW1]
  clear hW1
  have SG19:=hide hbW1
  clear hbW1
  have LR:=lt_of_cell g0
  go_wp2_with fail
  refine (cols_any _ A1 n1 c1 cols (HC.out.below SG19.out)).mono ?_
  rintro e w20 ⟨rfl,hb20⟩
  have o21:=bun14 g0 g1 g2 g3 g4 g5 g6 g7 g8 g9 g10 g11 g12 g13
  have SG22:=hide hb20
  clear hb20
  rw[HCE.out]
  by_cases hce:CE=0
  rotate_left
  ·have q0:(CE != 0)=true:=by simpa using hce
   obtain rfl:R=CE:=by rw[HPT.out,if_pos hce]
   obtain ⟨LR,g0,g1,g2,g3,g4,g5,g6,g7,g8,g9,g10,g11,g12,g13⟩:=o21.out _ SG22.out
   go_wp2
   all_goals (try (exfalso;go_light;simp_all;done))
   go_ret
   exact ⟨rfl,(below_trans SG19.out SG22.out)⟩
  subst hce
  obtain ⟨LR,g0,g1,g2,g3,g4,g5,g6,g7,g8,g9,g10,g11,g12,g13⟩:=o21.out _ SG22.out
  go_wp2_with fail
  refine (HUC.out _).mono ?_
  rintro e w23 ⟨rfl,hb23⟩
  have SG24:=hide (below_trans SG22.out hb23)
  clear hb23
  cases UC
  ·obtain ⟨LR,g0,g1,g2,g3,g4,g5,g6,g7,g8,g9,g10,g11,g12,g13⟩:=o21.out _ SG24.out
   go_wp2_with fail
   have BC26:=hide (below_trans SG19.out SG24.out)
   refine (HCC.out _ (HN.out.below BC26.out) (HN2.out.below BC26.out) (HC.out.below BC26.out) (HO.out.below BC26.out)).mono ?_
   rintro e w25 ⟨rfl,hb25⟩
   have SG27:=hide (below_trans SG24.out hb25)
   clear hb25
   obtain rfl:R=CK:=by rw[HPT.out];simp
   obtain ⟨LR,g0,g1,g2,g3,g4,g5,g6,g7,g8,g9,g10,g11,g12,g13⟩:=o21.out _ SG27.out
   go_wp2
   all_goals (try (exfalso;go_light;simp_all;done))
   go_ret
   exact ⟨rfl,(below_trans SG19.out SG27.out)⟩
  obtain ⟨LR,g0,g1,g2,g3,g4,g5,g6,g7,g8,g9,g10,g11,g12,g13⟩:=o21.out _ SG24.out
  go_wp2_with fail
  have BC29:=hide (below_trans SG19.out SG24.out)
  refine (HCD.out _ (HQ.out.below BC29.out) (HW.out.below BC29.out) (HC.out.below BC29.out) (HZ.out.below BC29.out)).mono ?_
  rintro e w28 ⟨rfl,hb28⟩
  have SG30:=hide (below_trans SG24.out hb28)
  clear hb28
  by_cases hcd:CD=0
  rotate_left
  ·have q0:(CD != 0)=true:=by simpa using hcd
   obtain rfl:R=CD:=by rw[HPT.out];simp[hcd]
   obtain ⟨LR,g0,g1,g2,g3,g4,g5,g6,g7,g8,g9,g10,g11,g12,g13⟩:=o21.out _ SG30.out
   go_wp2
   all_goals (try (exfalso;go_light;simp_all;done))
   go_ret
   exact ⟨rfl,(below_trans SG19.out SG30.out)⟩
  subst hcd
  by_cases hk5:x.kind=5
  rotate_left
  ·have q5:(x.kind==5)=false:=by simpa using hk5
   obtain rfl:R=0:=by rw[HPT.out];simp[hk5]
   obtain ⟨LR,g0,g1,g2,g3,g4,g5,g6,g7,g8,g9,g10,g11,g12,g13⟩:=o21.out _ SG30.out
   go_wp2
   all_goals (try (exfalso;go_light;simp_all;done))
   go_ret
   exact ⟨rfl,(below_trans SG19.out SG30.out)⟩
  have HK5:=hide hk5
  have q5:(x.kind==5)=true:=by simpa using hk5
  clear hk5
  obtain ⟨LR,g0,g1,g2,g3,g4,g5,g6,g7,g8,g9,g10,g11,g12,g13⟩:=o21.out _ SG30.out
  go_wp2_with fail
  refine (HS1.out _).mono ?_
  rintro e w31 ⟨rfl,hb31⟩
  have SG32:=hide (below_trans SG30.out hb31)
  clear hb31
  cases S1
  ·obtain rfl:R=1:=by rw[HPT.out];simp[HK5.out]
   obtain ⟨LR,g0,g1,g2,g3,g4,g5,g6,g7,g8,g9,g10,g11,g12,g13⟩:=o21.out _ SG32.out
   go_wp2
   all_goals (try (exfalso;go_light;simp_all;done))
   go_ret
   exact ⟨rfl,(below_trans SG19.out SG32.out)⟩
  obtain ⟨LR,g0,g1,g2,g3,g4,g5,g6,g7,g8,g9,g10,g11,g12,g13⟩:=o21.out _ SG32.out
  go_wp2_with fail
  refine (HS2.out _).mono ?_
  rintro e w33 ⟨rfl,hb33⟩
  have SG34:=hide (below_trans SG32.out hb33)
  clear hb33
  cases S2
  ·obtain rfl:R=1:=by rw[HPT.out];simp[HK5.out]
   obtain ⟨LR,g0,g1,g2,g3,g4,g5,g6,g7,g8,g9,g10,g11,g12,g13⟩:=o21.out _ SG34.out
   go_wp2
   all_goals (try (exfalso;go_light;simp_all;done))
   go_ret
   exact ⟨rfl,(below_trans SG19.out SG34.out)⟩
  ·obtain rfl:R=0:=by rw[HPT.out];simp
   obtain ⟨LR,g0,g1,g2,g3,g4,g5,g6,g7,g8,g9,g10,g11,g12,g13⟩:=o21.out _ SG34.out
   go_wp2
   all_goals (try (exfalso;go_light;simp_all;done))
   go_ret
   exact ⟨rfl,(below_trans SG19.out SG34.out)⟩
theorem checkAll_any (w:World)(x:Chk)(A:Option Addr)(n c:Nat)(hn:In w A n c x.cols)(A':Option Addr)(n' c':Nat)(hn':In w A' n' c' x.ocols)(A'':Option Addr)(n'' c'':Nat)(hq:In w A'' n'' c'' x.cond)(hw:Words w)(rn:ByteArray)(A1:Option Addr)(n1 c1:Nat)(cols:List Col)(hc:In w A1 n1 c1 cols)(Ak:Option Addr)(nk ck:Nat)(A3:Option Addr)(n3 c3:Nat)(rows:List Ent)(hr:In w A3 n3 c3 rows)(on:ByteArray)(A2:Option Addr)(n2 c2:Nat)(ocols:List Col)(ho:In w A2 n2 c2 ocols)(Al:Option Addr)(nl cl:Nat)(A4:Option Addr)(n4 c4:Nat)(orows:List Ent)(hor:In w A4 n4 c4 orows)(A5:Option Addr)(n5 c5:Nat)(zs:List Zone)(hz:In w A5 n5 c5 zs)(hb0:n<=4096)(hb1:n'<=4096)(hb2:n1<=4096)(hb3:n2<=4096):
  Calls Tryz.prog 61 #[.agg (chkCells x A n c A' n' c' A'' n'' c'').toArray,.agg #[.string rn,.slice A1 n1 c1,.slice Ak nk ck,.slice A3 n3 c3],.agg #[.string on,.slice A2 n2 c2,.slice Al nl cl,.slice A4 n4 c4],.slice A5 n5 c5] w
   λe w'=>e=.returned (.int .i64 (allErr x cols ocols rows orows zs))/\Below w.heap.size w w':=by
 have HV:=hide λW hn hn' hq hw hc ho hz=>chkValidate_any W x A n c hn A' n' c' hn' A'' n'' c'' hq hw A1 n1 c1 cols hc A2 n2 c2 ocols ho A5 n5 c5 zs hz hb0 hb1 hb2 hb3
 have HU:=hide λW=>usesO_any W x.kind
 have HT1:=hide λW hc hr=>checkRows_chk W rn A1 n1 c1 cols hc Ak nk ck A3 n3 c3 rows hr
 have HT2:=hide λW hc hr=>checkRows_chk W on A2 n2 c2 ocols hc Al nl cl A4 n4 c4 orows hr
 have HD:=hide (show allErr x cols ocols rows orows zs=if chkErr x cols ocols zs≠0 then chkErr x cols ocols zs else if tabErr cols rows≠0 then tabErr cols rows else if usesO x.kind=true then tabErr ocols orows else 0 from rfl)
 obtain ⟨R,hR⟩: ∃R,allErr x cols ocols rows orows zs=R:=⟨_,rfl⟩
 obtain ⟨E1,hE1⟩: ∃R,chkErr x cols ocols zs=R:=⟨_,rfl⟩
 obtain ⟨E2,hE2⟩: ∃R,tabErr cols rows=R:=⟨_,rfl⟩
 obtain ⟨E3,hE3⟩: ∃R,tabErr ocols orows=R:=⟨_,rfl⟩
 obtain ⟨U,hU⟩: ∃R,usesO x.kind=R:=⟨_,rfl⟩
 rw[hR,hE1,hE2,hE3,hU]at HD
 rw[hE1]at HV
 rw[hE2]at HT1
 rw[hE3]at HT2
 rw[hU]at HU
 rw[hR]
 clear hR hE1 hE2 hE3 hU
 simp only[chkCells]at HV⊢
 go_enter Tryz.func61,Tryz.ntmps61
 have HN:=hide hn
 clear hn
 have HN2:=hide hn'
 clear hn'
 have HQ:=hide hq
 clear hq
 have HW:=hide hw
 clear hw
 have HC:=hide hc
 clear hc
 have HO:=hide ho
 clear ho
 have HZ:=hide hz
 clear hz
 have HR:=hide hr
 clear hr
 have HOR:=hide hor
 clear hor
 go_wp2_with fail
 obtain ⟨W3,hW3,SZW3,hbW3,o35⟩:=start28 w x A n c A' n' c' A'' n'' c'' rn A1 n1 c1 Ak nk ck A3 n3 c3 on A2 n2 c2 Al nl cl A4 n4 c4
 rw[<-hW3]
 clear hW3
 have SG36:=hide hbW3
 clear hbW3
 obtain ⟨⟨LR,g0,g1,g2,g3,g4,g5,g6,g7,g8,g9,g10,g11,g12,g13⟩,⟨L2,r0,r1,r2,r3⟩,L3,s0,s1,s2,s3⟩:=o35.out _ (Below.refl _ _)
 go_wp2_with fail
 refine (HV.out _ (HN.out.below SG36.out) (HN2.out.below SG36.out) (HQ.out.below SG36.out) (HW.out.below SG36.out) (HC.out.below SG36.out) (HO.out.below SG36.out) (HZ.out.below SG36.out)).mono ?_
 rintro e w37 ⟨rfl,hb37⟩
 have SG38:=hide hb37
 clear hb37
 by_cases h1:E1=0
 rotate_left
 ·have q1:(E1==0)=false:=by simpa using h1
  obtain rfl:R=E1:=by rw[HD.out,if_pos h1]
  obtain ⟨⟨LR,g0,g1,g2,g3,g4,g5,g6,g7,g8,g9,g10,g11,g12,g13⟩,⟨L2,r0,r1,r2,r3⟩,L3,s0,s1,s2,s3⟩:=o35.out _ SG38.out
  go_wp2
  all_goals (try (exfalso;go_light;simp_all;done))
  go_ret
  exact ⟨rfl,(below_trans SG36.out SG38.out)⟩
 subst h1
 obtain ⟨⟨LR,g0,g1,g2,g3,g4,g5,g6,g7,g8,g9,g10,g11,g12,g13⟩,⟨L2,r0,r1,r2,r3⟩,L3,s0,s1,s2,s3⟩:=o35.out _ SG38.out
 go_wp2_with fail
 have BC40:=hide (below_trans SG36.out SG38.out)
 refine (HT1.out _ (HC.out.below BC40.out) (HR.out.below BC40.out)).mono ?_
 rintro e w39 ⟨rfl,hb39⟩
 have SG41:=hide (below_trans SG38.out hb39)
 clear hb39
 by_cases h2:E2=0
 rotate_left
 ·have q2:(E2==0)=false:=by simpa using h2
  obtain rfl:R=E2:=by rw[HD.out];simp[h2]
  obtain ⟨⟨LR,g0,g1,g2,g3,g4,g5,g6,g7,g8,g9,g10,g11,g12,g13⟩,⟨L2,r0,r1,r2,r3⟩,L3,s0,s1,s2,s3⟩:=o35.out _ SG41.out
  go_wp2
  all_goals (try (exfalso;go_light;simp_all;done))
  go_ret
  exact ⟨rfl,(below_trans SG36.out SG41.out)⟩
 subst h2
 obtain ⟨⟨LR,g0,g1,g2,g3,g4,g5,g6,g7,g8,g9,g10,g11,g12,g13⟩,⟨L2,r0,r1,r2,r3⟩,L3,s0,s1,s2,s3⟩:=o35.out _ SG41.out
 go_wp2_with fail
 refine (HU.out _).mono ?_
 rintro e w42 ⟨rfl,hb42⟩
 have SG43:=hide (below_trans SG41.out hb42)
 clear hb42
 cases U
 ·obtain rfl:R=0:=by rw[HD.out];simp
  obtain ⟨⟨LR,g0,g1,g2,g3,g4,g5,g6,g7,g8,g9,g10,g11,g12,g13⟩,⟨L2,r0,r1,r2,r3⟩,L3,s0,s1,s2,s3⟩:=o35.out _ SG43.out
  go_wp2
  all_goals (try (exfalso;go_light;simp_all;done))
  go_ret
  exact ⟨rfl,(below_trans SG36.out SG43.out)⟩
 ·obtain rfl:R=E3:=by rw[HD.out];simp
  obtain ⟨⟨LR,g0,g1,g2,g3,g4,g5,g6,g7,g8,g9,g10,g11,g12,g13⟩,⟨L2,r0,r1,r2,r3⟩,L3,s0,s1,s2,s3⟩:=o35.out _ SG43.out
  go_wp2_with fail
  have BC45:=hide (below_trans SG36.out SG43.out)
  refine (HT2.out _ (HO.out.below BC45.out) (HOR.out.below BC45.out)).mono ?_
  rintro e w44 ⟨rfl,hb44⟩
  have SG46:=hide (below_trans SG43.out hb44)
  clear hb44
  obtain ⟨⟨LR,g0,g1,g2,g3,g4,g5,g6,g7,g8,g9,g10,g11,g12,g13⟩,⟨L2,r0,r1,r2,r3⟩,L3,s0,s1,s2,s3⟩:=o35.out _ SG46.out
  go_wp2
  all_goals (try (exfalso;go_light;simp_all;done))
  go_ret
  exact ⟨rfl,(below_trans SG36.out SG46.out)⟩
end Go.Proofs.YtggejcekmehocaaGreatDoor
