/-
  check.Validate, check.checkAll. (Printed by gen_chka.py.)
-/
import Derived.Test.YtggejcekmehocaaGreatDoorChkV
import Derived.Test.YtggejcekmehocaaGreatDoorGal
namespace Go.Proofs.YtggejcekmehocaaGreatDoor
set_option maxHeartbeats 4000000
set_option maxRecDepth 100000
open Go.RowKit
set_option linter.unusedSimpArgs false
set_option linter.unusedVariables false
theorem iN (x:Chk)(cols ocols:List Col)(zs:List Zone)(h1:¬(x.kind<0\/6<x.kind\/x.policy<0\/2<x.policy))(h2:¬(x.policy=0/\(x.kind=5\/x.kind=6))):
  bu x cols ocols zs=if aD cols≠0 then aD cols else if iE x.kind=false then jA x cols ocols else if gT x cols zs≠0 then gT x cols zs else if x.kind=5/\(dx x.ln x.ld&&dx x.mn x.md)=false then 1 else 0:=by
 rw[bu,if_neg h1,if_neg h2]
theorem xH (w:World)(x:Chk)(A:Option Addr)(n c:Nat)(hn:In w A n c x.cols)(A':Option Addr)(n' c':Nat)(hn':In w A' n' c' x.ocols)(aY:Option Addr)(n'' c'':Nat)(hq:In w aY n'' c'' x.cond)(hw:Words w)(A1:Option Addr)(n1 c1:Nat)(cols:List Col)(hc:In w A1 n1 c1 cols)(A2:Option Addr)(n2 c2:Nat)(ocols:List Col)(ho:In w A2 n2 c2 ocols)(A5:Option Addr)(n5 c5:Nat)(zs:List Zone)(hz:In w A5 n5 c5 zs)(hb0:n<=4096)(hb1:n'<=4096)(hb2:n1<=4096)(hb3:n2<=4096):
  Calls Tryz.prog 90 #[.agg (ax x A n c A' n' c' aY n'' c'').toArray,.slice A1 n1 c1,.slice A2 n2 c2,.slice A5 n5 c5] w λe w'=>e=.returned (.int .i64 (bu x cols ocols zs))/\Below w.heap.size w w':=by
 have RP:=hide λW hn hn' hc ho=>vK W x A n c hn A' n' c' hn' aY n'' c'' A1 n1 c1 cols hc A2 n2 c2 ocols ho hb0 hb1 hb2 hb3
 have Vb:=hide λW hq hw hc hz=>Aj W x A n c A' n' c' aY n'' c'' hq hw A1 n1 c1 cols hc A5 n5 c5 zs hz
 have WK:=hide λW=>J2 W x.kind
 have Yj:=hide λW=>BF W x.ln x.ld
 have HS2:=hide λW=>BF W x.mn x.md
 have HP:=hide (iN x cols ocols zs)
 have HD:=hide (show bu x cols ocols zs=if x.kind<0\/6<x.kind\/x.policy<0\/2<x.policy then 1 else if x.policy=0/\(x.kind=5\/x.kind=6) then 7 else bu x cols ocols zs from by
  by_cases h1:x.kind<0\/6<x.kind\/x.policy<0\/2<x.policy
  ·rw[if_pos h1,bu,if_pos h1]
  ·rw[if_neg h1]
   by_cases h2:x.policy=0/\(x.kind=5\/x.kind=6)
   ·rw[if_pos h2,bu,if_neg h1,if_pos h2]
   ·rw[if_neg h2])
 obtain ⟨R,hR⟩: ∃R,bu x cols ocols zs=R:=⟨_,rfl⟩
 rw[hR]at HD HP
 rw[hR]
 obtain ⟨CE,Cy⟩: ∃C,aD cols=C:=⟨_,rfl⟩
 obtain ⟨CK,XA⟩: ∃C,jA x cols ocols=C:=⟨_,rfl⟩
 obtain ⟨CD,Xz⟩: ∃C,gT x cols zs=C:=⟨_,rfl⟩
 obtain ⟨UC,XE⟩: ∃U,iE x.kind=U:=⟨_,rfl⟩
 obtain ⟨S1,hS1⟩: ∃S,dx x.ln x.ld=S:=⟨_,rfl⟩
 obtain ⟨S2,hS2⟩: ∃S,dx x.mn x.md=S:=⟨_,rfl⟩
 rw[Cy,XA,Xz,XE,hS1,hS2]at HP
 rw[XA]at RP
 rw[Xz]at Vb
 rw[XE]at WK
 rw[hS1]at Yj
 rw[hS2]at HS2
 have J5:=hide Cy
 clear hR Cy XA Xz XE hS1 hS2
 have hA:(decide (x.kind<0)=true/\R=1)\/(decide (x.kind<0)=false/\decide (6<x.kind)=true/\R=1)\/(decide (x.kind<0)=false/\decide (6<x.kind)=false/\decide (x.policy<0)=true/\R=1)
   \/(decide (x.kind<0)=false/\decide (6<x.kind)=false/\decide (x.policy<0)=false/\decide (2<x.policy)=true/\R=1)
   \/(decide (x.kind<0)=false/\decide (6<x.kind)=false/\decide (x.policy<0)=false/\decide (2<x.policy)=false/\((((x.policy==0)=true/\(x.kind==5)=true/\R=7)\/((x.policy==0)=true/\(x.kind==5)=false/\(x.kind==6)=true/\R=7)
    \/((x.policy==0)=true/\(x.kind==5)=false/\(x.kind==6)=false/\Hid (R=if CE≠0 then CE else if UC=false then CK else if CD≠0 then CD else if x.kind=5/\(S1&&S2)=false then 1 else 0))\/((x.policy==0)=false/\Hid (R=if CE≠0 then CE else if UC=false then CK else if CD≠0 then CD else if x.kind=5/\(S1&&S2)=false then 1 else 0))))):=by
  by_cases a1:x.kind<0
  ·exact .inl ⟨by simpa using a1,by rw[HD.out,if_pos (.inl a1)]⟩
  by_cases a2:6<x.kind
  ·exact .inr (.inl ⟨by simpa using a1,by simpa using a2,by rw[HD.out,if_pos (.inr (.inl a2))]⟩)
  by_cases a3:x.policy<0
  ·exact .inr (.inr (.inl ⟨by simpa using a1,by simpa using a2,by simpa using a3,by rw[HD.out,if_pos (.inr (.inr (.inl a3)))]⟩))
  by_cases a4:2<x.policy
  ·exact .inr (.inr (.inr (.inl ⟨by simpa using a1,by simpa using a2,by simpa using a3,by simpa using a4,by rw[HD.out,if_pos (.inr (.inr (.inr a4)))]⟩)))
  have b:¬(x.kind<0\/6<x.kind\/x.policy<0\/2<x.policy):=by omega
  refine .inr (.inr (.inr (.inr ⟨by simpa using a1,by simpa using a2,by simpa using a3,by simpa using a4,?_⟩)))
  by_cases a5:x.policy=0
  ·by_cases a6:x.kind=5
   ·exact .inl ⟨by simpa using a5,by simpa using a6,by rw[HD.out,if_neg b,if_pos ⟨a5,.inl a6⟩]⟩
   by_cases a7:x.kind=6
   ·exact .inr (.inl ⟨by simpa using a5,by simpa using a6,by simpa using a7,by rw[HD.out,if_neg b,if_pos ⟨a5,.inr a7⟩]⟩)
   ·exact .inr (.inr (.inl ⟨by simpa using a5,by simpa using a6,by simpa using a7,hide (HP.out b (by omega))⟩))
  ·exact .inr (.inr (.inr ⟨by simpa using a5,hide (HP.out b (by omega))⟩))
 clear HD HP
 simp only[ax]at RP Vb⊢
 rcases hA with ⟨d1,rfl⟩|⟨d1,d2,rfl⟩|⟨d1,d2,d3,rfl⟩|⟨d1,d2,d3,d4,rfl⟩|⟨d1,d2,d3,d4,⟨d5,d6,rfl⟩|⟨d5,d6,d7,rfl⟩|⟨d5,d6,d7,J9⟩|⟨d5,J9⟩⟩
 ·go_enter Tryz.func90,Tryz.ntmps90
  go_wp2_with fail
  obtain ⟨W1,hW1⟩: ∃W,W=w.alloc (.cells #[.string x.name,.string x.table,.int .i64 x.kind,.slice A n c,.string x.other,.slice A' n' c',.int .i64 x.low,.int .i64 x.high,.slice aY n'' c'',.int .i64 x.ln,.int .i64 x.ld,.int .i64 x.mn,.int .i64 x.md,.int .i64 x.policy] 27):=⟨_,rfl⟩
  obtain ⟨hbW1,fO,g0,g1,g2,g3,g4,g5,g6,g7,g8,g9,g10,g11,g12,g13⟩:=dE hW1 rfl
  rw[<-hW1]
  clear hW1
  have qA:=hide hbW1
  clear hbW1
  have LR:=lt_of_cell g0
  go_wp2
  all_goals (try (exfalso;go_light;simp_all;done))
  go_ret
  exact ⟨rfl,qA.out⟩
 ·go_enter Tryz.func90,Tryz.ntmps90
  go_wp2_with fail
  obtain ⟨W1,hW1⟩: ∃W,W=w.alloc (.cells #[.string x.name,.string x.table,.int .i64 x.kind,.slice A n c,.string x.other,.slice A' n' c',.int .i64 x.low,.int .i64 x.high,.slice aY n'' c'',.int .i64 x.ln,.int .i64 x.ld,.int .i64 x.mn,.int .i64 x.md,.int .i64 x.policy] 27):=⟨_,rfl⟩
  obtain ⟨hbW1,fO,g0,g1,g2,g3,g4,g5,g6,g7,g8,g9,g10,g11,g12,g13⟩:=dE hW1 rfl
  rw[<-hW1]
  clear hW1
  have fK:=hide hbW1
  clear hbW1
  have LR:=lt_of_cell g0
  go_wp2
  all_goals (try (exfalso;go_light;simp_all;done))
  go_ret
  exact ⟨rfl,fK.out⟩
 ·go_enter Tryz.func90,Tryz.ntmps90
  go_wp2_with fail
  obtain ⟨W1,hW1⟩: ∃W,W=w.alloc (.cells #[.string x.name,.string x.table,.int .i64 x.kind,.slice A n c,.string x.other,.slice A' n' c',.int .i64 x.low,.int .i64 x.high,.slice aY n'' c'',.int .i64 x.ln,.int .i64 x.ld,.int .i64 x.mn,.int .i64 x.md,.int .i64 x.policy] 27):=⟨_,rfl⟩
  obtain ⟨hbW1,fO,g0,g1,g2,g3,g4,g5,g6,g7,g8,g9,g10,g11,g12,g13⟩:=dE hW1 rfl
  rw[<-hW1]
  clear hW1
  have oO:=hide hbW1
  clear hbW1
  have LR:=lt_of_cell g0
  go_wp2
  all_goals (try (exfalso;go_light;simp_all;done))
  go_ret
  exact ⟨rfl,oO.out⟩
 ·go_enter Tryz.func90,Tryz.ntmps90
  go_wp2_with fail
  obtain ⟨W1,hW1⟩: ∃W,W=w.alloc (.cells #[.string x.name,.string x.table,.int .i64 x.kind,.slice A n c,.string x.other,.slice A' n' c',.int .i64 x.low,.int .i64 x.high,.slice aY n'' c'',.int .i64 x.ln,.int .i64 x.ld,.int .i64 x.mn,.int .i64 x.md,.int .i64 x.policy] 27):=⟨_,rfl⟩
  obtain ⟨hbW1,fO,g0,g1,g2,g3,g4,g5,g6,g7,g8,g9,g10,g11,g12,g13⟩:=dE hW1 rfl
  rw[<-hW1]
  clear hW1
  have jH:=hide hbW1
  clear hbW1
  have LR:=lt_of_cell g0
  go_wp2
  all_goals (try (exfalso;go_light;simp_all;done))
  go_ret
  exact ⟨rfl,jH.out⟩
 ·go_enter Tryz.func90,Tryz.ntmps90
  go_wp2_with fail
  obtain ⟨W1,hW1⟩: ∃W,W=w.alloc (.cells #[.string x.name,.string x.table,.int .i64 x.kind,.slice A n c,.string x.other,.slice A' n' c',.int .i64 x.low,.int .i64 x.high,.slice aY n'' c'',.int .i64 x.ln,.int .i64 x.ld,.int .i64 x.mn,.int .i64 x.md,.int .i64 x.policy] 27):=⟨_,rfl⟩
  obtain ⟨hbW1,fO,g0,g1,g2,g3,g4,g5,g6,g7,g8,g9,g10,g11,g12,g13⟩:=dE hW1 rfl
  rw[<-hW1]
  clear hW1
  have nZ:=hide hbW1
  clear hbW1
  have LR:=lt_of_cell g0
  go_wp2
  all_goals (try (exfalso;go_light;simp_all;done))
  go_ret
  exact ⟨rfl,nZ.out⟩
 ·go_enter Tryz.func90,Tryz.ntmps90
  go_wp2_with fail
  obtain ⟨W1,hW1⟩: ∃W,W=w.alloc (.cells #[.string x.name,.string x.table,.int .i64 x.kind,.slice A n c,.string x.other,.slice A' n' c',.int .i64 x.low,.int .i64 x.high,.slice aY n'' c'',.int .i64 x.ln,.int .i64 x.ld,.int .i64 x.mn,.int .i64 x.md,.int .i64 x.policy] 27):=⟨_,rfl⟩
  obtain ⟨hbW1,fO,g0,g1,g2,g3,g4,g5,g6,g7,g8,g9,g10,g11,g12,g13⟩:=dE hW1 rfl
  rw[<-hW1]
  clear hW1
  have uw:=hide hbW1
  clear hbW1
  have LR:=lt_of_cell g0
  go_wp2
  all_goals (try (exfalso;go_light;simp_all;done))
  go_ret
  exact ⟨rfl,uw.out⟩
 ·go_enter Tryz.func90,Tryz.ntmps90
  have HN:=hide hn
  clear hn
  have eT:=hide hn'
  clear hn'
  have HQ:=hide hq
  clear hq
  have HW:=hide hw
  clear hw
  have HC:=hide hc
  clear hc
  have HO:=hide ho
  clear ho
  have HZ:=hide hz
  clear hz
  go_wp2_with fail
  obtain ⟨W1,hW1⟩: ∃W,W=w.alloc (.cells #[.string x.name,.string x.table,.int .i64 x.kind,.slice A n c,.string x.other,.slice A' n' c',.int .i64 x.low,.int .i64 x.high,.slice aY n'' c'',.int .i64 x.ln,.int .i64 x.ld,.int .i64 x.mn,.int .i64 x.md,.int .i64 x.policy] 27):=⟨_,rfl⟩
  obtain ⟨hbW1,fO,g0,g1,g2,g3,g4,g5,g6,g7,g8,g9,g10,g11,g12,g13⟩:=dE hW1 rfl
  rw[<-hW1]
  clear hW1
  have kv:=hide hbW1
  clear hbW1
  have LR:=lt_of_cell g0
  go_wp2_with fail
  refine (oo _ A1 n1 c1 cols (HC.out.below kv.out)).mono ?_
  rintro e w8 ⟨rfl,uR⟩
  have o9:=jF g0 g1 g2 g3 g4 g5 g6 g7 g8 g9 g10 g11 g12 g13
  have fZ:=hide uR
  clear uR
  rw[J5.out]
  by_cases hce:CE=0
  rotate_left
  ·have q0:(CE != 0)=true:=by simpa using hce
   obtain rfl:R=CE:=by rw[J9.out,if_pos hce]
   obtain ⟨LR,g0,g1,g2,g3,g4,g5,g6,g7,g8,g9,g10,g11,g12,g13⟩:=o9.out _ fZ.out
   go_wp2
   all_goals (try (exfalso;go_light;simp_all;done))
   go_ret
   exact ⟨rfl,(aa kv.out fZ.out)⟩
  subst hce
  obtain ⟨LR,g0,g1,g2,g3,g4,g5,g6,g7,g8,g9,g10,g11,g12,g13⟩:=o9.out _ fZ.out
  go_wp2_with fail
  refine (WK.out _).mono ?_
  rintro e Nf ⟨rfl,kN⟩
  have ji:=hide (aa fZ.out kN)
  clear kN
  cases UC
  ·obtain ⟨LR,g0,g1,g2,g3,g4,g5,g6,g7,g8,g9,g10,g11,g12,g13⟩:=o9.out _ ji.out
   go_wp2_with fail
   have sZ:=hide (aa kv.out ji.out)
   refine (RP.out _ (HN.out.below sZ.out) (eT.out.below sZ.out) (HC.out.below sZ.out) (HO.out.below sZ.out)).mono ?_
   rintro e VT ⟨rfl,mM⟩
   have kL:=hide (aa ji.out mM)
   clear mM
   obtain rfl:R=CK:=by rw[J9.out];simp
   obtain ⟨LR,g0,g1,g2,g3,g4,g5,g6,g7,g8,g9,g10,g11,g12,g13⟩:=o9.out _ kL.out
   go_wp2
   all_goals (try (exfalso;go_light;simp_all;done))
   go_ret
   exact ⟨rfl,(aa kv.out kL.out)⟩
  obtain ⟨LR,g0,g1,g2,g3,g4,g5,g6,g7,g8,g9,g10,g11,g12,g13⟩:=o9.out _ ji.out
  go_wp2_with fail
  have qD:=hide (aa kv.out ji.out)
  refine (Vb.out _ (HQ.out.below qD.out) (HW.out.below qD.out) (HC.out.below qD.out) (HZ.out.below qD.out)).mono ?_
  rintro e w16 ⟨rfl,oC⟩
  have tF:=hide (aa ji.out oC)
  clear oC
  by_cases hcd:CD=0
  rotate_left
  ·have q0:(CD != 0)=true:=by simpa using hcd
   obtain rfl:R=CD:=by rw[J9.out];simp[hcd]
   obtain ⟨LR,g0,g1,g2,g3,g4,g5,g6,g7,g8,g9,g10,g11,g12,g13⟩:=o9.out _ tF.out
   go_wp2
   all_goals (try (exfalso;go_light;simp_all;done))
   go_ret
   exact ⟨rfl,(aa kv.out tF.out)⟩
  subst hcd
  by_cases hk5:x.kind=5
  rotate_left
  ·have q5:(x.kind==5)=false:=by simpa using hk5
   obtain rfl:R=0:=by rw[J9.out];simp[hk5]
   obtain ⟨LR,g0,g1,g2,g3,g4,g5,g6,g7,g8,g9,g10,g11,g12,g13⟩:=o9.out _ tF.out
   go_wp2
   all_goals (try (exfalso;go_light;simp_all;done))
   go_ret
   exact ⟨rfl,(aa kv.out tF.out)⟩
  rw[hk5]at d6
  exact absurd d6 (by decide)
 ·go_enter Tryz.func90,Tryz.ntmps90
  have HN:=hide hn
  clear hn
  have eT:=hide hn'
  clear hn'
  have HQ:=hide hq
  clear hq
  have HW:=hide hw
  clear hw
  have HC:=hide hc
  clear hc
  have HO:=hide ho
  clear ho
  have HZ:=hide hz
  clear hz
  go_wp2_with fail
  obtain ⟨W1,hW1⟩: ∃W,W=w.alloc (.cells #[.string x.name,.string x.table,.int .i64 x.kind,.slice A n c,.string x.other,.slice A' n' c',.int .i64 x.low,.int .i64 x.high,.slice aY n'' c'',.int .i64 x.ln,.int .i64 x.ld,.int .i64 x.mn,.int .i64 x.md,.int .i64 x.policy] 27):=⟨_,rfl⟩
  obtain ⟨hbW1,fO,g0,g1,g2,g3,g4,g5,g6,g7,g8,g9,g10,g11,g12,g13⟩:=dE hW1 rfl
  rw[<-hW1]
  clear hW1
  have gp:=hide hbW1
  clear hbW1
  have LR:=lt_of_cell g0
  go_wp2_with fail
  refine (oo _ A1 n1 c1 cols (HC.out.below gp.out)).mono ?_
  rintro e RN ⟨rfl,L8⟩
  have zD:=jF g0 g1 g2 g3 g4 g5 g6 g7 g8 g9 g10 g11 g12 g13
  have kw:=hide L8
  clear L8
  rw[J5.out]
  by_cases hce:CE=0
  rotate_left
  ·have q0:(CE != 0)=true:=by simpa using hce
   obtain rfl:R=CE:=by rw[J9.out,if_pos hce]
   obtain ⟨LR,g0,g1,g2,g3,g4,g5,g6,g7,g8,g9,g10,g11,g12,g13⟩:=zD.out _ kw.out
   go_wp2
   all_goals (try (exfalso;go_light;simp_all;done))
   go_ret
   exact ⟨rfl,(aa gp.out kw.out)⟩
  subst hce
  obtain ⟨LR,g0,g1,g2,g3,g4,g5,g6,g7,g8,g9,g10,g11,g12,g13⟩:=zD.out _ kw.out
  go_wp2_with fail
  refine (WK.out _).mono ?_
  rintro e w23 ⟨rfl,L9⟩
  have il:=hide (aa kw.out L9)
  clear L9
  cases UC
  ·obtain ⟨LR,g0,g1,g2,g3,g4,g5,g6,g7,g8,g9,g10,g11,g12,g13⟩:=zD.out _ il.out
   go_wp2_with fail
   have BO:=hide (aa gp.out il.out)
   refine (RP.out _ (HN.out.below BO.out) (eT.out.below BO.out) (HC.out.below BO.out) (HO.out.below BO.out)).mono ?_
   rintro e w25 ⟨rfl,Ma⟩
   have nQ:=hide (aa il.out Ma)
   clear Ma
   obtain rfl:R=CK:=by rw[J9.out];simp
   obtain ⟨LR,g0,g1,g2,g3,g4,g5,g6,g7,g8,g9,g10,g11,g12,g13⟩:=zD.out _ nQ.out
   go_wp2
   all_goals (try (exfalso;go_light;simp_all;done))
   go_ret
   exact ⟨rfl,(aa gp.out nQ.out)⟩
  obtain ⟨LR,g0,g1,g2,g3,g4,g5,g6,g7,g8,g9,g10,g11,g12,g13⟩:=zD.out _ il.out
  go_wp2_with fail
  have Ae:=hide (aa gp.out il.out)
  refine (Vb.out _ (HQ.out.below Ae.out) (HW.out.below Ae.out) (HC.out.below Ae.out) (HZ.out.below Ae.out)).mono ?_
  rintro e YF ⟨rfl,CG⟩
  have oV:=hide (aa il.out CG)
  clear CG
  by_cases hcd:CD=0
  rotate_left
  ·have q0:(CD != 0)=true:=by simpa using hcd
   obtain rfl:R=CD:=by rw[J9.out];simp[hcd]
   obtain ⟨LR,g0,g1,g2,g3,g4,g5,g6,g7,g8,g9,g10,g11,g12,g13⟩:=zD.out _ oV.out
   go_wp2
   all_goals (try (exfalso;go_light;simp_all;done))
   go_ret
   exact ⟨rfl,(aa gp.out oV.out)⟩
  subst hcd
  by_cases hk5:x.kind=5
  rotate_left
  ·have q5:(x.kind==5)=false:=by simpa using hk5
   obtain rfl:R=0:=by rw[J9.out];simp[hk5]
   obtain ⟨LR,g0,g1,g2,g3,g4,g5,g6,g7,g8,g9,g10,g11,g12,g13⟩:=zD.out _ oV.out
   go_wp2
   all_goals (try (exfalso;go_light;simp_all;done))
   go_ret
   exact ⟨rfl,(aa gp.out oV.out)⟩
  have RU:=hide hk5
  have q5:(x.kind==5)=true:=by simpa using hk5
  clear hk5
  obtain ⟨LR,g0,g1,g2,g3,g4,g5,g6,g7,g8,g9,g10,g11,g12,g13⟩:=zD.out _ oV.out
  go_wp2_with fail
  refine (Yj.out _).mono ?_
  rintro e w31 ⟨rfl,Ui⟩
  have oW:=hide (aa oV.out Ui)
  clear Ui
  cases S1
  ·obtain rfl:R=1:=by rw[J9.out];simp[RU.out]
   obtain ⟨LR,g0,g1,g2,g3,g4,g5,g6,g7,g8,g9,g10,g11,g12,g13⟩:=zD.out _ oW.out
   go_wp2
   all_goals (try (exfalso;go_light;simp_all;done))
   go_ret
   exact ⟨rfl,(aa gp.out oW.out)⟩
  obtain ⟨LR,g0,g1,g2,g3,g4,g5,g6,g7,g8,g9,g10,g11,g12,g13⟩:=zD.out _ oW.out
  go_wp2_with fail
  refine (HS2.out _).mono ?_
  rintro e w33 ⟨rfl,Mc⟩
  have lw:=hide (aa oW.out Mc)
  clear Mc
  cases S2
  ·obtain rfl:R=1:=by rw[J9.out];simp[RU.out]
   obtain ⟨LR,g0,g1,g2,g3,g4,g5,g6,g7,g8,g9,g10,g11,g12,g13⟩:=zD.out _ lw.out
   go_wp2
   all_goals (try (exfalso;go_light;simp_all;done))
   go_ret
   exact ⟨rfl,(aa gp.out lw.out)⟩
  ·obtain rfl:R=0:=by rw[J9.out];simp
   obtain ⟨LR,g0,g1,g2,g3,g4,g5,g6,g7,g8,g9,g10,g11,g12,g13⟩:=zD.out _ lw.out
   go_wp2
   all_goals (try (exfalso;go_light;simp_all;done))
   go_ret
   exact ⟨rfl,(aa gp.out lw.out)⟩
theorem uF (w:World)(x:Chk)(A:Option Addr)(n c:Nat)(hn:In w A n c x.cols)(A':Option Addr)(n' c':Nat)(hn':In w A' n' c' x.ocols)(aY:Option Addr)(n'' c'':Nat)(hq:In w aY n'' c'' x.cond)(hw:Words w)(rn:ByteArray)(A1:Option Addr)(n1 c1:Nat)(cols:List Col)(hc:In w A1 n1 c1 cols)(Ak:Option Addr)(nk ck:Nat)(A3:Option Addr)(n3 c3:Nat)(rows:List Ent)(hr:In w A3 n3 c3 rows)(on:ByteArray)(A2:Option Addr)(n2 c2:Nat)(ocols:List Col)(ho:In w A2 n2 c2 ocols)(Al:Option Addr)(nl cl:Nat)(A4:Option Addr)(n4 c4:Nat)(orows:List Ent)(hor:In w A4 n4 c4 orows)(A5:Option Addr)(n5 c5:Nat)(zs:List Zone)(hz:In w A5 n5 c5 zs)(hb0:n<=4096)(hb1:n'<=4096)(hb2:n1<=4096)(hb3:n2<=4096):
  Calls Tryz.prog 61 #[.agg (ax x A n c A' n' c' aY n'' c'').toArray,.agg #[.string rn,.slice A1 n1 c1,.slice Ak nk ck,.slice A3 n3 c3],.agg #[.string on,.slice A2 n2 c2,.slice Al nl cl,.slice A4 n4 c4],.slice A5 n5 c5] w
   λe w'=>e=.returned (.int .i64 (aI x cols ocols rows orows zs))/\Below w.heap.size w w':=by
 have HV:=hide λW hn hn' hq hw hc ho hz=>xH W x A n c hn A' n' c' hn' aY n'' c'' hq hw A1 n1 c1 cols hc A2 n2 c2 ocols ho A5 n5 c5 zs hz hb0 hb1 hb2 hb3
 have HU:=hide λW=>sD W x.kind
 have HT1:=hide λW hc hr=>sM W rn A1 n1 c1 cols hc Ak nk ck A3 n3 c3 rows hr
 have HT2:=hide λW hc hr=>sM W on A2 n2 c2 ocols hc Al nl cl A4 n4 c4 orows hr
 have HD:=hide (show aI x cols ocols rows orows zs=if bu x cols ocols zs≠0 then bu x cols ocols zs else if eH cols rows≠0 then eH cols rows else if iL x.kind=true then eH ocols orows else 0 from rfl)
 obtain ⟨R,hR⟩: ∃R,aI x cols ocols rows orows zs=R:=⟨_,rfl⟩
 obtain ⟨E1,hE1⟩: ∃R,bu x cols ocols zs=R:=⟨_,rfl⟩
 obtain ⟨E2,hE2⟩: ∃R,eH cols rows=R:=⟨_,rfl⟩
 obtain ⟨E3,kM⟩: ∃R,eH ocols orows=R:=⟨_,rfl⟩
 obtain ⟨U,hU⟩: ∃R,iL x.kind=R:=⟨_,rfl⟩
 rw[hR,hE1,hE2,kM,hU]at HD
 rw[hE1]at HV
 rw[hE2]at HT1
 rw[kM]at HT2
 rw[hU]at HU
 rw[hR]
 clear hR hE1 hE2 kM hU
 simp only[ax]at HV⊢
 go_enter Tryz.func61,Tryz.ntmps61
 have HN:=hide hn
 clear hn
 have eT:=hide hn'
 clear hn'
 have HQ:=hide hq
 clear hq
 have HW:=hide hw
 clear hw
 have HC:=hide hc
 clear hc
 have HO:=hide ho
 clear ho
 have HZ:=hide hz
 clear hz
 have HR:=hide hr
 clear hr
 have kr:=hide hor
 clear hor
 go_wp2_with fail
 obtain ⟨W3,hW3,d9,bR,Qc⟩:=dm w x A n c A' n' c' aY n'' c'' rn A1 n1 c1 Ak nk ck A3 n3 c3 on A2 n2 c2 Al nl cl A4 n4 c4
 rw[<-hW3]
 clear hW3
 have vI:=hide bR
 clear bR
 obtain ⟨⟨LR,g0,g1,g2,g3,g4,g5,g6,g7,g8,g9,g10,g11,g12,g13⟩,⟨L2,r0,r1,r2,r3⟩,L3,s0,s1,s2,s3⟩:=Qc.out _ (Below.refl _ _)
 go_wp2_with fail
 refine (HV.out _ (HN.out.below vI.out) (eT.out.below vI.out) (HQ.out.below vI.out) (HW.out.below vI.out) (HC.out.below vI.out) (HO.out.below vI.out) (HZ.out.below vI.out)).mono ?_
 rintro e w37 ⟨rfl,Uk⟩
 have yA:=hide Uk
 clear Uk
 by_cases h1:E1=0
 rotate_left
 ·have q1:(E1==0)=false:=by simpa using h1
  obtain rfl:R=E1:=by rw[HD.out,if_pos h1]
  obtain ⟨⟨LR,g0,g1,g2,g3,g4,g5,g6,g7,g8,g9,g10,g11,g12,g13⟩,⟨L2,r0,r1,r2,r3⟩,L3,s0,s1,s2,s3⟩:=Qc.out _ yA.out
  go_wp2
  all_goals (try (exfalso;go_light;simp_all;done))
  go_ret
  exact ⟨rfl,(aa vI.out yA.out)⟩
 subst h1
 obtain ⟨⟨LR,g0,g1,g2,g3,g4,g5,g6,g7,g8,g9,g10,g11,g12,g13⟩,⟨L2,r0,r1,r2,r3⟩,L3,s0,s1,s2,s3⟩:=Qc.out _ yA.out
 go_wp2_with fail
 have Dr:=hide (aa vI.out yA.out)
 refine (HT1.out _ (HC.out.below Dr.out) (HR.out.below Dr.out)).mono ?_
 rintro e w39 ⟨rfl,Ul⟩
 have tH:=hide (aa yA.out Ul)
 clear Ul
 by_cases h2:E2=0
 rotate_left
 ·have q2:(E2==0)=false:=by simpa using h2
  obtain rfl:R=E2:=by rw[HD.out];simp[h2]
  obtain ⟨⟨LR,g0,g1,g2,g3,g4,g5,g6,g7,g8,g9,g10,g11,g12,g13⟩,⟨L2,r0,r1,r2,r3⟩,L3,s0,s1,s2,s3⟩:=Qc.out _ tH.out
  go_wp2
  all_goals (try (exfalso;go_light;simp_all;done))
  go_ret
  exact ⟨rfl,(aa vI.out tH.out)⟩
 subst h2
 obtain ⟨⟨LR,g0,g1,g2,g3,g4,g5,g6,g7,g8,g9,g10,g11,g12,g13⟩,⟨L2,r0,r1,r2,r3⟩,L3,s0,s1,s2,s3⟩:=Qc.out _ tH.out
 go_wp2_with fail
 refine (HU.out _).mono ?_
 rintro e w42 ⟨rfl,Un⟩
 have La:=hide (aa tH.out Un)
 clear Un
 cases U
 ·obtain rfl:R=0:=by rw[HD.out];simp
  obtain ⟨⟨LR,g0,g1,g2,g3,g4,g5,g6,g7,g8,g9,g10,g11,g12,g13⟩,⟨L2,r0,r1,r2,r3⟩,L3,s0,s1,s2,s3⟩:=Qc.out _ La.out
  go_wp2
  all_goals (try (exfalso;go_light;simp_all;done))
  go_ret
  exact ⟨rfl,(aa vI.out La.out)⟩
 ·obtain rfl:R=E3:=by rw[HD.out];simp
  obtain ⟨⟨LR,g0,g1,g2,g3,g4,g5,g6,g7,g8,g9,g10,g11,g12,g13⟩,⟨L2,r0,r1,r2,r3⟩,L3,s0,s1,s2,s3⟩:=Qc.out _ La.out
  go_wp2_with fail
  have Sm:=hide (aa vI.out La.out)
  refine (HT2.out _ (HO.out.below Sm.out) (kr.out.below Sm.out)).mono ?_
  rintro e w44 ⟨rfl,Uo⟩
  have TD:=hide (aa La.out Uo)
  clear Uo
  obtain ⟨⟨LR,g0,g1,g2,g3,g4,g5,g6,g7,g8,g9,g10,g11,g12,g13⟩,⟨L2,r0,r1,r2,r3⟩,L3,s0,s1,s2,s3⟩:=Qc.out _ TD.out
  go_wp2
  all_goals (try (exfalso;go_light;simp_all;done))
  go_ret
  exact ⟨rfl,(aa vI.out TD.out)⟩
end Go.Proofs.YtggejcekmehocaaGreatDoor
