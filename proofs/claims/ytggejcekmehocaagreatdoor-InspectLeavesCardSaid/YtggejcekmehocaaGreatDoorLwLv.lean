/-
  warehouselaw29.InspectLeaves.
-/
import Derived.Test.YtggejcekmehocaaGreatDoorGbe
import Derived.Test.YtggejcekmehocaaGreatDoorM29M
import Derived.Test.YtggejcekmehocaaGreatDoorGad
namespace Go.Proofs.YtggejcekmehocaaGreatDoor
set_option maxHeartbeats 8000000
set_option maxRecDepth 100000
open Go.RowKit Go.Maps
set_option linter.unusedSimpArgs false
set_option linter.unusedVariables false
theorem lawLv29_any (w:World)(A:Option Addr)(n c:Nat)(l:List Int)(hl:In w A n c l)(kind:Int)(hk:I64 kind)(hw:Words w):
  Calls Tryz.prog 6 #[.slice A n c,.int .i64 kind] w λe w'=>e=.returned (.bool true)/\Below w.heap.size w w':=by
 have h63:=hl.le
 have HL:=hide hl
 have HW:=hide hw
 clear hl hw
 by_cases q0:200<n
 ·have d0:(200:Int)<(n:Int):=by omega
  go_enter Tryz.func6,Tryz.ntmps6
  go_wp2_with fail
  all_goals (try (exfalso;go_light;simp_all;done))
  refine (known29_any _ HW.out).mono ?_
  rintro e w1 ⟨rfl,hb1⟩
  have SG2:=hide hb1
  clear hb1
  go_wp2
  go_ret
  exact ⟨rfl,SG2.out⟩
 have d0:¬(200:Int)<(n:Int):=by omega
 go_enter Tryz.func6,Tryz.ntmps6
 go_wp2_with fail
 all_goals (try (exfalso;go_light;simp_all;done))
 refine (made29_any _ A n c l HL.out (by omega) kind hk).mono ?_
 rintro e w1 ⟨⟨cc,A',n',c',A'',n'',c'',A3,n3,c3,A1,A2,A5,n5,c5,A6,n6,c6,A7,n7,c7,A8,n8,c8,rows,orows,xs,ys,rfl,hcm,i1,i2,i3,i4,i5,i6,i7,i8,i9,t1,t2,m1,m2⟩,hb1⟩
 have hce:=m29_err cc hcm
 have hle:=m29_len cc hcm
 have hb0:n'<=4096:=by rw[<-i1.len];exact hle.1
 have hb2:n''<=4096:=by rw[<-i2.len];exact hle.2
 obtain ⟨R,O,a,CL,E1,E2,E3,hlv⟩:=insp_conc hce t1 t2 m1 m2 (by omega) (by omega)
 have HBU:=hide λW (h1:In W A' n' c' cc.cols) (h2:In W A'' n'' c'' cc.ocols) (h3:In W A3 n3 c3 cc.cond) (hw:Words W) (h4:In W A1 3 3 c29) (h5:In W A2 3 3 c29) (h6:In W A5 n5 c5 rows) (h7:In W A6 n6 c6 orows)=>buildI_all W cc A' n' c' h1 A'' n'' c'' h2 A3 n3 c3 h3 hw ⟨#[114]⟩ A1 3 3 c29 h4 none 0 0 A5 n5 c5 rows h6 ⟨#[111]⟩ A2 3 3 c29 h5 none 0 0 A6 n6 c6 orows h7 none 0 0 [] In.nil_ hb0 hb2 (by omega) (by omega)
 have HAP:=hide λW (h1:In W A' n' c' cc.cols) (h2:In W A'' n'' c'' cc.ocols) (h3:In W A3 n3 c3 cc.cond) (hw:Words W) (h4:In W A1 3 3 c29) (h5:In W A2 3 3 c29) B7 p7 d7 (k7:In W B7 p7 d7 (inspOf cc c29 rows orows).rows) B8 p8 d8 (k8:In W B8 p8 d8 (inspOf cc c29 rows orows).other) B9 p9 d9 (k9:In W B9 p9 d9 (inspOf cc c29 rows orows).viol) C7 q7 e7 (x7:In W C7 q7 e7 (xs)) C8 q8 e8 (x8:In W C8 q8 e8 (ys))=>applyI_any W cc A' n' c' h1 A'' n'' c'' h2 A3 n3 c3 h3 hw (inspOf cc c29 rows orows) B7 p7 d7 k7 B8 p8 d8 k8 B9 p9 d9 k9 ⟨#[114]⟩ A1 3 3 c29 h4 none 0 0 C7 q7 e7 (xs) x7 ⟨#[111]⟩ A2 3 3 c29 h5 none 0 0 C8 q8 e8 (ys) x8 none 0 0 [] In.nil_ hb0 hb2 (by omega) (by omega)
 have HCO:=hide λW (h1:In W A' n' c' cc.cols) (h2:In W A'' n'' c'' cc.ocols) (h3:In W A3 n3 c3 cc.cond) (hw:Words W) (h4:In W A1 3 3 c29) (h5:In W A2 3 3 c29) B7 p7 d7 (k7:In W B7 p7 d7 (inspOf cc c29 rows orows).rows) B8 p8 d8 (k8:In W B8 p8 d8 (inspOf cc c29 rows orows).other) B9 p9 d9 (k9:In W B9 p9 d9 (inspOf cc c29 rows orows).viol) C7 q7 e7 (x7:In W C7 q7 e7 (xs)) C8 q8 e8 (x8:In W C8 q8 e8 (ys))=>conc_any W cc A' n' c' h1 A'' n'' c'' h2 A3 n3 c3 h3 hw (inspOf cc c29 rows orows) B7 p7 d7 k7 B8 p8 d8 k8 B9 p9 d9 k9 ⟨#[114]⟩ A1 3 3 c29 h4 none 0 0 C7 q7 e7 (xs) x7 ⟨#[111]⟩ A2 3 3 c29 h5 none 0 0 C8 q8 e8 (ys) x8 none 0 0 [] In.nil_ hb0 hb2 (by omega) (by omega)
 simp only[chkCells,E1,E2,E3]at HBU HAP HCO
 obtain ⟨IA,hIA⟩: ∃I,inspOf cc c29 rows orows=I:=⟨_,rfl⟩
 obtain ⟨IB,hIB⟩: ∃I,inspOf cc c29 R O=I:=⟨_,rfl⟩
 rw[hIA]at HBU HAP HCO hlv
 rw[hIB]at HAP hlv
 have HLV:=hide hlv
 clear hIA hIB E1 E2 E3 hce hle hcm t1 t2 m1 m2 hlv
 have I1:=hide i1
 have I2:=hide i2
 have I3:=hide i3
 have I4:=hide i4
 have I5:=hide i5
 have I6:=hide i6
 have I7:=hide i7
 have I8:=hide i8
 have I9:=hide i9
 have HW1:=hide (HW.out.below hb1)
 have HB1:=hide hb1
 clear i1 i2 i3 i4 i5 i6 i7 i8 i9 hb1
 simp only[chkCells]
 go_upto_region 4 with (fail)
 obtain ⟨W903,hW903⟩: ∃W,W=w1.alloc (.cells #[.string cc.name,.string cc.table,.int .i64 cc.kind,.slice A' n' c',.string cc.other,.slice A'' n'' c'',.int .i64 cc.low,.int .i64 cc.high,.slice A3 n3 c3,.int .i64 cc.ln,.int .i64 cc.ld,.int .i64 cc.mn,.int .i64 cc.md,.int .i64 cc.policy] 27):=⟨_,rfl⟩
 obtain ⟨g1,hg1⟩: ∃q,q=w1.heap.size:=⟨_,rfl⟩
 have KC:Hid (Blk W903 g1 27 [.string cc.name,.string cc.table,.int .i64 cc.kind,.slice A' n' c',.string cc.other,.slice A'' n'' c'',.int .i64 cc.low,.int .i64 cc.high,.slice A3 n3 c3,.int .i64 cc.ln,.int .i64 cc.ld,.int .i64 cc.mn,.int .i64 cc.md,.int .i64 cc.policy]):=hide (by rw[hW903,hg1];exact Blk.made _ _ _)
 have SZg1:Hid (W903.heap.size=g1+1):=hide (by rw[hW903,hg1];exact World.size_alloc _ _)
 have LBg1:Hid (Below w1.heap.size w1 W903):=hide (by rw[hW903];exact below_alloc)
 have HGg1:Hid (w1.heap.size<=g1):=hide (by rw[hg1];exact Nat.le_refl _)
 rw[<-hW903,<-hg1]
 have HEg1:=hide hg1
 clear hW903 hg1
 have LHBg1:=hide LBg1.out
 obtain ⟨W904,hW904⟩: ∃W,W=W903.alloc (.cells #[.string ⟨#[114]⟩,.slice A1 3 3,.slice none 0 0,.slice A5 n5 c5] 32):=⟨_,rfl⟩
 obtain ⟨g2,hg2⟩: ∃q,q=W903.heap.size:=⟨_,rfl⟩
 have KR:Hid (Blk W904 g2 32 [.string ⟨#[114]⟩,.slice A1 3 3,.slice none 0 0,.slice A5 n5 c5]):=hide (by rw[hW904,hg2];exact Blk.made _ _ _)
 have SZg2:Hid (W904.heap.size=g2+1):=hide (by rw[hW904,hg2];exact World.size_alloc _ _)
 have LBg2:Hid (Below W903.heap.size W903 W904):=hide (by rw[hW904];exact below_alloc)
 have HGg2:Hid (w1.heap.size<=g2):=hide (by rw[hg2];exact LHBg1.out.size)
 have NEg1_g2:Hid (¬g1=g2):=hide (by have h:=KC.out.lt;omega)
 have hqg2:g2=g1+1:=by rw[hg2];exact SZg1.out
 rw[<-hW904,<-hqg2]
 clear hqg2
 have HEg2:=hide hg2
 clear hW904 hg2
 have KC:=hide (KC.out.below LBg2.out)
 have LHBg2:=hide (below_trans LHBg1.out LBg2.out)
 obtain ⟨W905,hW905⟩: ∃W,W=W904.alloc (.cells #[.string ⟨#[111]⟩,.slice A2 3 3,.slice none 0 0,.slice A6 n6 c6] 32):=⟨_,rfl⟩
 obtain ⟨g3,hg3⟩: ∃q,q=W904.heap.size:=⟨_,rfl⟩
 have KO:Hid (Blk W905 g3 32 [.string ⟨#[111]⟩,.slice A2 3 3,.slice none 0 0,.slice A6 n6 c6]):=hide (by rw[hW905,hg3];exact Blk.made _ _ _)
 have SZg3:Hid (W905.heap.size=g3+1):=hide (by rw[hW905,hg3];exact World.size_alloc _ _)
 have LBg3:Hid (Below W904.heap.size W904 W905):=hide (by rw[hW905];exact below_alloc)
 have HGg3:Hid (w1.heap.size<=g3):=hide (by rw[hg3];exact LHBg2.out.size)
 have NEg1_g3:Hid (¬g1=g3):=hide (by have h:=KC.out.lt;omega)
 have NEg2_g3:Hid (¬g2=g3):=hide (by have h:=KR.out.lt;omega)
 have hqg3:g3=g2+1:=by rw[hg3];exact SZg2.out
 rw[<-hW905,<-hqg3]
 clear hqg3
 have HEg3:=hide hg3
 clear hW905 hg3
 have KC:=hide (KC.out.below LBg3.out)
 have KR:=hide (KR.out.below LBg3.out)
 have LHBg3:=hide (below_trans LHBg2.out LBg3.out)
 obtain ⟨W906,hW906⟩: ∃W,W=W905.alloc (.cells #[.string ⟨#[114]⟩,.slice A1 3 3,.slice none 0 0,.slice A7 n7 c7] 32):=⟨_,rfl⟩
 obtain ⟨g4,hg4⟩: ∃q,q=W905.heap.size:=⟨_,rfl⟩
 have KX:Hid (Blk W906 g4 32 [.string ⟨#[114]⟩,.slice A1 3 3,.slice none 0 0,.slice A7 n7 c7]):=hide (by rw[hW906,hg4];exact Blk.made _ _ _)
 have SZg4:Hid (W906.heap.size=g4+1):=hide (by rw[hW906,hg4];exact World.size_alloc _ _)
 have LBg4:Hid (Below W905.heap.size W905 W906):=hide (by rw[hW906];exact below_alloc)
 have HGg4:Hid (w1.heap.size<=g4):=hide (by rw[hg4];exact LHBg3.out.size)
 have NEg1_g4:Hid (¬g1=g4):=hide (by have h:=KC.out.lt;omega)
 have NEg2_g4:Hid (¬g2=g4):=hide (by have h:=KR.out.lt;omega)
 have NEg3_g4:Hid (¬g3=g4):=hide (by have h:=KO.out.lt;omega)
 have hqg4:g4=g3+1:=by rw[hg4];exact SZg3.out
 rw[<-hW906,<-hqg4]
 clear hqg4
 have HEg4:=hide hg4
 clear hW906 hg4
 have KC:=hide (KC.out.below LBg4.out)
 have KR:=hide (KR.out.below LBg4.out)
 have KO:=hide (KO.out.below LBg4.out)
 have LHBg4:=hide (below_trans LHBg3.out LBg4.out)
 obtain ⟨W907,hW907⟩: ∃W,W=W906.alloc (.cells #[.string ⟨#[111]⟩,.slice A2 3 3,.slice none 0 0,.slice A8 n8 c8] 32):=⟨_,rfl⟩
 obtain ⟨g5,hg5⟩: ∃q,q=W906.heap.size:=⟨_,rfl⟩
 have KY:Hid (Blk W907 g5 32 [.string ⟨#[111]⟩,.slice A2 3 3,.slice none 0 0,.slice A8 n8 c8]):=hide (by rw[hW907,hg5];exact Blk.made _ _ _)
 have SZg5:Hid (W907.heap.size=g5+1):=hide (by rw[hW907,hg5];exact World.size_alloc _ _)
 have LBg5:Hid (Below W906.heap.size W906 W907):=hide (by rw[hW907];exact below_alloc)
 have HGg5:Hid (w1.heap.size<=g5):=hide (by rw[hg5];exact LHBg4.out.size)
 have NEg1_g5:Hid (¬g1=g5):=hide (by have h:=KC.out.lt;omega)
 have NEg2_g5:Hid (¬g2=g5):=hide (by have h:=KR.out.lt;omega)
 have NEg3_g5:Hid (¬g3=g5):=hide (by have h:=KO.out.lt;omega)
 have NEg4_g5:Hid (¬g4=g5):=hide (by have h:=KX.out.lt;omega)
 have hqg5:g5=g4+1:=by rw[hg5];exact SZg4.out
 rw[<-hW907,<-hqg5]
 clear hqg5
 have HEg5:=hide hg5
 clear hW907 hg5
 have KC:=hide (KC.out.below LBg5.out)
 have KR:=hide (KR.out.below LBg5.out)
 have KO:=hide (KO.out.below LBg5.out)
 have KX:=hide (KX.out.below LBg5.out)
 have LHBg5:=hide (below_trans LHBg4.out LBg5.out)
 obtain ⟨LTKC,g0,g1,g2,g3,g4,g5,g6,g7,g8,g9,g10,g11,g12,g13⟩:=KC.out.ats14
 obtain ⟨LTKR,r0,r1,r2,r3⟩:=KR.out.ats4
 obtain ⟨LTKO,s0,s1,s2,s3⟩:=KO.out.ats4
 have hs1:=LHBg5.out.size
 go_wp2_with fail
 refine (HBU.out _ (I1.out.below LHBg5.out) (I2.out.below LHBg5.out) (I3.out.below LHBg5.out) (HW1.out.below LHBg5.out) (I4.out.below LHBg5.out) (I5.out.below LHBg5.out) (I6.out.below LHBg5.out) (I7.out.below LHBg5.out)).mono ?_
 rintro e w8 ⟨⟨v7,v8,v9,rfl,h7,h8,h9⟩,hb8⟩
 clear LTKC g0 g1 g2 g3 g4 g5 g6 g7 g8 g9 g10 g11 g12 g13 LTKR r0 r1 r2 r3 LTKO s0 s1 s2 s3
 have KC:=hide (KC.out.below hb8)
 have KR:=hide (KR.out.below hb8)
 have KO:=hide (KO.out.below hb8)
 have KX:=hide (KX.out.below hb8)
 have KY:=hide (KY.out.below hb8)
 have LHC8:=hide (below_trans LHBg5.out hb8)
 clear hb8
 replace h7:=h7.rebase hs1
 obtain ⟨Aa,ca,rfl⟩:=h7.form
 obtain ⟨la,laq⟩: ∃m,IA.rows.length=m:=⟨_,rfl⟩
 rw[laq]at h7⊢
 have HAL:=hide laq
 clear laq
 replace h8:=h8.rebase hs1
 obtain ⟨Ab,cb,rfl⟩:=h8.form
 obtain ⟨lb,lbq⟩: ∃m,IA.other.length=m:=⟨_,rfl⟩
 rw[lbq]at h8⊢
 have HBL:=hide lbq
 clear lbq
 replace h9:=h9.rebase hs1
 obtain ⟨Ac,cc1,rfl⟩:=h9.form
 obtain ⟨lc,lcq⟩: ∃m,IA.viol.length=m:=⟨_,rfl⟩
 rw[lcq]at h9⊢
 have HCL:=hide lcq
 clear lcq
 have HA:=hide h7
 clear h7
 have HB:=hide h8
 clear h8
 have HC:=hide h9
 clear h9
 clear hs1
 go_upto_region 5 with (fail)
 obtain ⟨W909,hW909⟩: ∃W,W=w8.alloc (.cells #[.slice Aa la ca,.slice Ab lb cb,.slice Ac lc cc1] 36):=⟨_,rfl⟩
 obtain ⟨g6,hg6⟩: ∃q,q=w8.heap.size:=⟨_,rfl⟩
 have KI:Hid (Blk W909 g6 36 [.slice Aa la ca,.slice Ab lb cb,.slice Ac lc cc1]):=hide (by rw[hW909,hg6];exact Blk.made _ _ _)
 have SZg6:Hid (W909.heap.size=g6+1):=hide (by rw[hW909,hg6];exact World.size_alloc _ _)
 have LBg6:Hid (Below w8.heap.size w8 W909):=hide (by rw[hW909];exact below_alloc)
 have HGg6:Hid (w1.heap.size<=g6):=hide (by rw[hg6];exact LHC8.out.size)
 have NEg1_g6:Hid (¬g1=g6):=hide (by have h:=KC.out.lt;omega)
 have NEg2_g6:Hid (¬g2=g6):=hide (by have h:=KR.out.lt;omega)
 have NEg3_g6:Hid (¬g3=g6):=hide (by have h:=KO.out.lt;omega)
 have NEg4_g6:Hid (¬g4=g6):=hide (by have h:=KX.out.lt;omega)
 have NEg5_g6:Hid (¬g5=g6):=hide (by have h:=KY.out.lt;omega)
 rw[<-hW909,<-hg6]
 have HEg6:=hide hg6
 clear hW909 hg6
 have KC:=hide (KC.out.below LBg6.out)
 have KR:=hide (KR.out.below LBg6.out)
 have KO:=hide (KO.out.below LBg6.out)
 have KX:=hide (KX.out.below LBg6.out)
 have KY:=hide (KY.out.below LBg6.out)
 have HA:=hide (HA.out.below LBg6.out)
 have HB:=hide (HB.out.below LBg6.out)
 have HC:=hide (HC.out.below LBg6.out)
 have LHBg6:=hide (below_trans LHC8.out LBg6.out)
 obtain ⟨LTKC,g0,g1,g2,g3,g4,g5,g6,g7,g8,g9,g10,g11,g12,g13⟩:=KC.out.ats14
 obtain ⟨LTKI,i0,i1,i2⟩:=KI.out.ats3
 obtain ⟨LTKX,x0,x1,x2,x3⟩:=KX.out.ats4
 obtain ⟨LTKY,y0,y1,y2,y3⟩:=KY.out.ats4
 go_wp2_with fail
 refine (HCO.out _ (I1.out.below LHBg6.out) (I2.out.below LHBg6.out) (I3.out.below LHBg6.out) (HW1.out.below LHBg6.out) (I4.out.below LHBg6.out) (I5.out.below LHBg6.out) _ _ _ (ol_in HA.out HAL.out) _ _ _ (ol_in HB.out HBL.out) _ _ _ (ol_in HC.out HCL.out) _ _ _ (I8.out.below LHBg6.out) _ _ _ (I9.out.below LHBg6.out)).mono ?_
 rintro e w10 ⟨⟨B1,m1,d1,rfl,hcl⟩,hb10⟩
 clear LTKC g0 g1 g2 g3 g4 g5 g6 g7 g8 g9 g10 g11 g12 g13 LTKI i0 i1 i2 LTKX x0 x1 x2 x3 LTKY y0 y1 y2 y3
 have KC:=hide (KC.out.below hb10)
 have KR:=hide (KR.out.below hb10)
 have KO:=hide (KO.out.below hb10)
 have KX:=hide (KX.out.below hb10)
 have KY:=hide (KY.out.below hb10)
 have KI:=hide (KI.out.below hb10)
 have HA:=hide (HA.out.below hb10)
 have HB:=hide (HB.out.below hb10)
 have HC:=hide (HC.out.below hb10)
 have LHC10:=hide (below_trans LHBg6.out hb10)
 clear hb10
 have HCI:=hide hcl
 clear hcl
 go_upto_region 6 with (fail)
 obtain ⟨LTKC,g0,g1,g2,g3,g4,g5,g6,g7,g8,g9,g10,g11,g12,g13⟩:=KC.out.ats14
 obtain ⟨LTKI,i0,i1,i2⟩:=KI.out.ats3
 obtain ⟨LTKX,x0,x1,x2,x3⟩:=KX.out.ats4
 obtain ⟨LTKY,y0,y1,y2,y3⟩:=KY.out.ats4
 have hs2:=LHC10.out.size
 go_wp2_with fail
 refine (HAP.out _ (I1.out.below LHC10.out) (I2.out.below LHC10.out) (I3.out.below LHC10.out) (HW1.out.below LHC10.out) (I4.out.below LHC10.out) (I5.out.below LHC10.out) _ _ _ (ol_in HA.out HAL.out) _ _ _ (ol_in HB.out HBL.out) _ _ _ (ol_in HC.out HCL.out) _ _ _ (I8.out.below LHC10.out) _ _ _ (I9.out.below LHC10.out)).mono ?_
 rintro e w11 ⟨⟨v7,v8,v9,v0,rfl,h7,h8,h9,h0⟩,hb11⟩
 clear LTKC g0 g1 g2 g3 g4 g5 g6 g7 g8 g9 g10 g11 g12 g13 LTKI i0 i1 i2 LTKX x0 x1 x2 x3 LTKY y0 y1 y2 y3
 have KC:=hide (KC.out.below hb11)
 have KR:=hide (KR.out.below hb11)
 have KO:=hide (KO.out.below hb11)
 have KX:=hide (KX.out.below hb11)
 have KY:=hide (KY.out.below hb11)
 have KI:=hide (KI.out.below hb11)
 have HC:=hide (HC.out.below hb11)
 have HCI:=hide (HCI.out.below hb11)
 have LHC11:=hide (below_trans LHC10.out hb11)
 clear hb11
 replace h7:=h7.rebase hs2
 obtain ⟨Ad,cd,rfl⟩:=h7.form
 obtain ⟨ld,ldq⟩: ∃m,IB.rows.length=m:=⟨_,rfl⟩
 rw[ldq]at h7⊢
 have HDL:=hide ldq
 clear ldq
 replace h8:=h8.rebase hs2
 obtain ⟨Ae,ce,rfl⟩:=h8.form
 obtain ⟨le,leq⟩: ∃m,IB.other.length=m:=⟨_,rfl⟩
 rw[leq]at h8⊢
 have HEL:=hide leq
 clear leq
 replace h9:=h9.rebase hs2
 obtain ⟨Af,cf,rfl⟩:=h9.form
 obtain ⟨lf,lfq⟩: ∃m,IB.viol.length=m:=⟨_,rfl⟩
 rw[lfq]at h9⊢
 have HFL:=hide lfq
 clear lfq
 replace h0:=h0.rebase hs2
 obtain ⟨Ag,cg,rfl⟩:=h0.form
 obtain ⟨lg,lgq⟩: ∃m,a.length=m:=⟨_,rfl⟩
 rw[lgq]at h0⊢
 have HGL:=hide lgq
 clear lgq
 have HD:=hide h7
 clear h7
 have HE:=hide h8
 clear h8
 have HF:=hide h9
 clear h9
 have HG:=hide h0
 clear h0
 clear hs2
 go_upto_region 7 with (fail)
 obtain ⟨W912,hW912⟩: ∃W,W=w11.alloc (.cells #[.slice Ad ld cd,.slice Ae le ce,.slice Af lf cf] 36):=⟨_,rfl⟩
 obtain ⟨g7,hg7⟩: ∃q,q=w11.heap.size:=⟨_,rfl⟩
 have KJ:Hid (Blk W912 g7 36 [.slice Ad ld cd,.slice Ae le ce,.slice Af lf cf]):=hide (by rw[hW912,hg7];exact Blk.made _ _ _)
 have SZg7:Hid (W912.heap.size=g7+1):=hide (by rw[hW912,hg7];exact World.size_alloc _ _)
 have LBg7:Hid (Below w11.heap.size w11 W912):=hide (by rw[hW912];exact below_alloc)
 have HGg7:Hid (w1.heap.size<=g7):=hide (by rw[hg7];exact LHC11.out.size)
 have NEg1_g7:Hid (¬g1=g7):=hide (by have h:=KC.out.lt;omega)
 have NEg2_g7:Hid (¬g2=g7):=hide (by have h:=KR.out.lt;omega)
 have NEg3_g7:Hid (¬g3=g7):=hide (by have h:=KO.out.lt;omega)
 have NEg4_g7:Hid (¬g4=g7):=hide (by have h:=KX.out.lt;omega)
 have NEg5_g7:Hid (¬g5=g7):=hide (by have h:=KY.out.lt;omega)
 have NEg6_g7:Hid (¬g6=g7):=hide (by have h:=KI.out.lt;omega)
 rw[<-hW912,<-hg7]
 have HEg7:=hide hg7
 clear hW912 hg7
 have KI:=hide (KI.out.below LBg7.out)
 have HC:=hide (HC.out.below LBg7.out)
 have HCI:=hide (HCI.out.below LBg7.out)
 have HD:=hide (HD.out.below LBg7.out)
 have HF:=hide (HF.out.below LBg7.out)
 have LHBg7:=hide (below_trans LHC11.out LBg7.out)
 obtain ⟨WB,hWB⟩: ∃W,W=W912:=⟨_,rfl⟩
 have HBB:=hide (below_trans HB1.out LHBg7.out)
 have KIB:=KI
 have KJB:=KJ
 have HRB:=hide (ol_in HD.out HDL.out)
 have HVB:=hide (ol_in HC.out HCL.out)
 have HVC:=hide (ol_in HF.out HFL.out)
 have HCB:=HCI
 have HWB:=hide (HW1.out.below LHBg7.out)
 rw[<-hWB]at HBB KIB KJB HRB HVB HVC HCB HWB⊢
 clear KC KR KO KX KY KI KJ HA HB HC HD HE HF HG HCI hWB
 go_upto_region 9 with (fail)
 all_goals (try (exfalso;go_light;simp_all;done))
 go_wp2
 go_loopg [17,18] ld (λleft i r wr=> ∃k:Nat,k+left=ld/\i=.int .i64 k/\Below WB.heap.size WB wr)
 case atStart=>exact ⟨0,by omega,rfl,Below.refl _ _⟩
 case round=>
  obtain ⟨k,hk,rfl,hb⟩:=hrel
  have HBR:=hide hb
  have HBZ0:=hide (below_trans HBB.out hb)
  obtain ⟨LTJ,j0,j1,j2⟩:=(KJB.out.below hb).ats3
  have h63:=HRB.out.le
  clear hb
  by_cases hlt:k<ld
  ·obtain ⟨b,off,x,rfl,hBb,HX,Ax,nx,cx,f0,f1,e2, -⟩:=HRB.out.ent hlt
   have e0:=bat HBR.out hBb f0
   have k0:(0:Int)<=(k:Int):=by omega
   have k1:(k:Int)<(ld:Int):=by omega
   have HN:=hide (HLV.out x (mem_of_drop HX.out))
   obtain ⟨N0,hN0⟩: ∃q,cntF CL x.row=q:=⟨_,rfl⟩
   obtain ⟨N1,hN1⟩: ∃q,cntF IA.viol x.row=q:=⟨_,rfl⟩
   obtain ⟨N2,hN2⟩: ∃q,cntF IB.viol x.row=q:=⟨_,rfl⟩
   rw[hN0,hN1,hN2]at HN
   have HN0:=hide hN0
   have HN1:=hide hN1
   have HN2:=hide hN2
   have HRX:=hide (e2.below HBR.out)
   have HCL2:=hide (HCB.out.below HBR.out)
   have HV0:=hide (HVB.out.below HBR.out)
   have HV1:=hide (HVC.out.below HBR.out)
   have S0:=hide ((KIB.out.below HBR.out).at 2 rfl)
   have S1:=hide ((KJB.out.below HBR.out).at 2 rfl)
   have LI:=hide (KIB.out.below HBR.out).lt
   have LJ:=hide (KJB.out.below HBR.out).lt
   clear hN0 hN1 hN2 e2 f0 f1 hBb
   go_upto_region 13 with (fail)
   clear j0 j1 j2 e0
   by_cases hz:N0=0
   ·obtain rfl:=hz
    obtain rfl:=HN.out rfl
    have c0:((0:Int)==0)=true:=by decide
    have c1:(N1 != N1)=false:=by simp
    refine wp_region_held_drew (S:=λV=>V.cell? ⟨g6,2,none⟩=some (.slice Ac lc cc1)/\V.cell? ⟨g7,2,none⟩=some (.slice Af lf cf)) (by kernel_rfl) (by exact ⟨S0.out,S1.out⟩) (λhHeld=>?_)
    refine wpAnyH_take (i:=0) (v:=?_) rfl (by kernel_rfl) (by kernel_rfl) (by kernel_rfl) (λ_ _ _ h=>h) (Or.inl ⟨by rfl,?_⟩) hHeld ?_
    rotate_left
    ·intro w hSw
     try dsimp only at hSw
     go_simp
     try with_reducible rfl
    (try simp only[Act.put,List.getElem_toArray,List.getElem_cons_succ,List.getElem_cons_zero,List.setIfInBounds_toArray,List.set_cons_zero,List.set_cons_succ])
    refine wpAnyH_take (i:=1) (v:=?_) rfl (by kernel_rfl) (by kernel_rfl) (by kernel_rfl) (λ_ _ _ h=>h) (Or.inl ⟨by rfl,?_⟩) hHeld ?_
    rotate_left
    ·intro w hSw
     try dsimp only at hSw
     go_simp
     try with_reducible rfl
    (try simp only[Act.put,List.getElem_toArray,List.getElem_cons_succ,List.getElem_cons_zero,List.setIfInBounds_toArray,List.set_cons_zero,List.set_cons_succ])
    refine wpAnyH_ready (rs:=[2]) (by kernel_rfl) (by simp) ?_
    refine AllReadyH.cons rfl (λK hK=>?_) AllReadyH.nil
    go_simp
    go_at_call 25
    refine (count_ref _ B1 m1 d1 CL (by exact HCL2.out.below (Below.refl _ _).drew) Ax nx cx x.row (by exact HRX.out.below (Below.refl _ _).drew)).mono ?_
    rintro e z1 ⟨rfl,hc1⟩
    rw[HN0.out]
    have RB1:=hide (below_undrew hc1)
    clear hc1
    go_wp2_with fail
    refine hK.out _ _ ?_ (λhHeld2=>?_)
    ·exact ⟨bat RB1.out LI.out S0.out,bat RB1.out LJ.out S1.out⟩
    clear hK K hHeld
    have hHeld:=hHeld2
    clear hHeld2
    (try simp only[Act.put,List.getElem_toArray,List.getElem_cons_succ,List.getElem_cons_zero,List.setIfInBounds_toArray,List.set_cons_zero,List.set_cons_succ])
    refine wpAnyH_take (i:=3) (v:=?_) rfl (by kernel_rfl) (by kernel_rfl) (by kernel_rfl) (λ_ _ _ h=>h) (Or.inl ⟨by rfl,?_⟩) hHeld ?_
    rotate_left
    ·intro w hSw
     try dsimp only at hSw
     go_simp
     try with_reducible rfl
    (try simp only[Act.put,List.getElem_toArray,List.getElem_cons_succ,List.getElem_cons_zero,List.setIfInBounds_toArray,List.set_cons_zero,List.set_cons_succ])
    refine wpAnyH_take (i:=4) (v:=?_) rfl (by kernel_rfl) (by kernel_rfl) (by kernel_rfl) (λ_ _ _ h=>h) (Or.inl ⟨by rfl,?_⟩) hHeld ?_
    rotate_left
    ·intro w hSw
     try dsimp only at hSw
     go_simp
     try with_reducible rfl
    (try simp only[Act.put,List.getElem_toArray,List.getElem_cons_succ,List.getElem_cons_zero,List.setIfInBounds_toArray,List.set_cons_zero,List.set_cons_succ])
    refine wpAnyH_take (i:=5) (v:=?_) rfl (by kernel_rfl) (by kernel_rfl) (by kernel_rfl) (λ_ _ _ h=>h) (Or.inl ⟨by rfl,?_⟩) hHeld ?_
    rotate_left
    ·intro w hSw
     try dsimp only at hSw
     go_simp
     try with_reducible rfl
    (try simp only[Act.put,List.getElem_toArray,List.getElem_cons_succ,List.getElem_cons_zero,List.setIfInBounds_toArray,List.set_cons_zero,List.set_cons_succ])
    refine wpAnyH_take (i:=6) (v:=?_) rfl (by kernel_rfl) (by kernel_rfl) (by kernel_rfl) (λ_ _ _ h=>h) (Or.inl ⟨by rfl,?_⟩) hHeld ?_
    rotate_left
    ·intro w hSw
     try dsimp only at hSw
     go_simp
     try with_reducible rfl
    (try simp only[Act.put,List.getElem_toArray,List.getElem_cons_succ,List.getElem_cons_zero,List.setIfInBounds_toArray,List.set_cons_zero,List.set_cons_succ])
    refine wpAnyH_take (i:=7) (v:=?_) rfl (by kernel_rfl) (by kernel_rfl) (by kernel_rfl) (λ_ _ _ h=>h) (Or.inl ⟨by rfl,?_⟩) hHeld ?_
    rotate_left
    ·intro w hSw
     try dsimp only at hSw
     go_simp
     try with_reducible rfl
    (try simp only[Act.put,List.getElem_toArray,List.getElem_cons_succ,List.getElem_cons_zero,List.setIfInBounds_toArray,List.set_cons_zero,List.set_cons_succ])
    refine wpAnyH_take (i:=9) (v:=?_) rfl (by kernel_rfl) (by kernel_rfl) (by kernel_rfl) (λ_ _ _ h=>h) (Or.inl ⟨by rfl,?_⟩) hHeld ?_
    rotate_left
    ·intro w hSw
     try dsimp only at hSw
     go_simp
     try with_reducible rfl
    (try simp only[Act.put,List.getElem_toArray,List.getElem_cons_succ,List.getElem_cons_zero,List.setIfInBounds_toArray,List.set_cons_zero,List.set_cons_succ])
    refine wpAnyH_take (i:=10) (v:=?_) rfl (by kernel_rfl) (by kernel_rfl) (by kernel_rfl) (λ_ _ _ h=>h) (Or.inl ⟨by rfl,?_⟩) hHeld ?_
    rotate_left
    ·intro w hSw
     try dsimp only at hSw
     go_simp
     try with_reducible rfl
    (try simp only[Act.put,List.getElem_toArray,List.getElem_cons_succ,List.getElem_cons_zero,List.setIfInBounds_toArray,List.set_cons_zero,List.set_cons_succ])
    refine wpAnyH_take (i:=11) (v:=?_) rfl (by kernel_rfl) (by kernel_rfl) (by kernel_rfl) (λ_ _ _ h=>h) (Or.inl ⟨by rfl,?_⟩) hHeld ?_
    rotate_left
    ·intro w hSw
     try dsimp only at hSw
     go_simp
     try with_reducible rfl
    (try simp only[Act.put,List.getElem_toArray,List.getElem_cons_succ,List.getElem_cons_zero,List.setIfInBounds_toArray,List.set_cons_zero,List.set_cons_succ])
    refine wpAnyH_ready (rs:=[8]) (by kernel_rfl) (by simp) ?_
    refine AllReadyH.cons rfl (λK hK=>?_) AllReadyH.nil
    go_simp
    go_at_call 25
    refine (count_ref _ Ac lc cc1 IA.viol (by exact HV0.out.below RB1.out) Ax nx cx x.row (by exact HRX.out.below RB1.out)).mono ?_
    rintro e z2 ⟨rfl,hc2⟩
    rw[HN1.out]
    have RB2:=hide (below_trans RB1.out hc2)
    clear hc2
    go_wp2_with fail
    refine hK.out _ _ ?_ (λhHeld2=>?_)
    ·exact ⟨bat RB2.out LI.out S0.out,bat RB2.out LJ.out S1.out⟩
    clear hK K hHeld
    have hHeld:=hHeld2
    clear hHeld2
    (try simp only[Act.put,List.getElem_toArray,List.getElem_cons_succ,List.getElem_cons_zero,List.setIfInBounds_toArray,List.set_cons_zero,List.set_cons_succ])
    refine wpAnyH_ready (rs:=[12]) (by kernel_rfl) (by simp) ?_
    refine AllReadyH.cons rfl (λK hK=>?_) AllReadyH.nil
    go_simp
    go_at_call 25
    refine (count_ref _ Af lf cf IB.viol (by exact HV1.out.below RB2.out) Ax nx cx x.row (by exact HRX.out.below RB2.out)).mono ?_
    rintro e z3 ⟨rfl,hc3⟩
    rw[HN2.out]
    have RB3:=hide (below_trans RB2.out hc3)
    clear hc3
    go_wp2_with fail
    refine hK.out _ _ ?_ (λhHeld2=>?_)
    ·exact ⟨bat RB3.out LI.out S0.out,bat RB3.out LJ.out S1.out⟩
    clear hK K hHeld
    have hHeld:=hHeld2
    clear hHeld2
    (try simp only[Act.put,List.getElem_toArray,List.getElem_cons_succ,List.getElem_cons_zero,List.setIfInBounds_toArray,List.set_cons_zero,List.set_cons_succ])
    refine wpAnyH_take (i:=13) (v:=?_) rfl (by kernel_rfl) (by kernel_rfl) (by kernel_rfl) (λ_ _ _ h=>h) (Or.inl ⟨by rfl,?_⟩) hHeld ?_
    rotate_left
    ·intro w hSw
     try dsimp only at hSw
     go_simp
     try with_reducible rfl
    (try simp only[Act.put,List.getElem_toArray,List.getElem_cons_succ,List.getElem_cons_zero,List.setIfInBounds_toArray,List.set_cons_zero,List.set_cons_succ])
    refine wpAnyH_take (i:=14) (v:=?_) rfl (by kernel_rfl) (by kernel_rfl) (by kernel_rfl) (λ_ _ _ h=>h) (Or.inl ⟨by rfl,?_⟩) hHeld ?_
    rotate_left
    ·intro w hSw
     try dsimp only at hSw
     go_simp
     try with_reducible rfl
    (try simp only[Act.put,List.getElem_toArray,List.getElem_cons_succ,List.getElem_cons_zero,List.setIfInBounds_toArray,List.set_cons_zero,List.set_cons_succ])
    refine wpAnyH_done (by kernel_rfl) ?_ _
    go_wp2
    all_goals (try (exfalso;go_light;simp_all;done))
    go_roundg (gk-1)
    case measure=>omega
    case rel=>exact ⟨k+1,by omega,by go_num,below_trans HBR.out RB3.out⟩
   ·have c0:(N0==0)=false:=by simpa using hz
    refine wp_region_held_drew (S:=λV=>V.cell? ⟨g6,2,none⟩=some (.slice Ac lc cc1)/\V.cell? ⟨g7,2,none⟩=some (.slice Af lf cf)) (by kernel_rfl) (by exact ⟨S0.out,S1.out⟩) (λhHeld=>?_)
    refine wpAnyH_take (i:=0) (v:=?_) rfl (by kernel_rfl) (by kernel_rfl) (by kernel_rfl) (λ_ _ _ h=>h) (Or.inl ⟨by rfl,?_⟩) hHeld ?_
    rotate_left
    ·intro w hSw
     try dsimp only at hSw
     go_simp
     try with_reducible rfl
    (try simp only[Act.put,List.getElem_toArray,List.getElem_cons_succ,List.getElem_cons_zero,List.setIfInBounds_toArray,List.set_cons_zero,List.set_cons_succ])
    refine wpAnyH_take (i:=1) (v:=?_) rfl (by kernel_rfl) (by kernel_rfl) (by kernel_rfl) (λ_ _ _ h=>h) (Or.inl ⟨by rfl,?_⟩) hHeld ?_
    rotate_left
    ·intro w hSw
     try dsimp only at hSw
     go_simp
     try with_reducible rfl
    (try simp only[Act.put,List.getElem_toArray,List.getElem_cons_succ,List.getElem_cons_zero,List.setIfInBounds_toArray,List.set_cons_zero,List.set_cons_succ])
    refine wpAnyH_ready (rs:=[2]) (by kernel_rfl) (by simp) ?_
    refine AllReadyH.cons rfl (λK hK=>?_) AllReadyH.nil
    go_simp
    go_at_call 25
    refine (count_ref _ B1 m1 d1 CL (by exact HCL2.out.below (Below.refl _ _).drew) Ax nx cx x.row (by exact HRX.out.below (Below.refl _ _).drew)).mono ?_
    rintro e z1 ⟨rfl,hc1⟩
    rw[HN0.out]
    have RB1:=hide (below_undrew hc1)
    clear hc1
    go_wp2_with fail
    refine hK.out _ _ ?_ (λhHeld2=>?_)
    ·exact ⟨bat RB1.out LI.out S0.out,bat RB1.out LJ.out S1.out⟩
    clear hK K hHeld
    have hHeld:=hHeld2
    clear hHeld2
    (try simp only[Act.put,List.getElem_toArray,List.getElem_cons_succ,List.getElem_cons_zero,List.setIfInBounds_toArray,List.set_cons_zero,List.set_cons_succ])
    refine wpAnyH_take (i:=3) (v:=?_) rfl (by kernel_rfl) (by kernel_rfl) (by kernel_rfl) (λ_ _ _ h=>h) (Or.inl ⟨by rfl,?_⟩) hHeld ?_
    rotate_left
    ·intro w hSw
     try dsimp only at hSw
     go_simp
     try with_reducible rfl
    (try simp only[Act.put,List.getElem_toArray,List.getElem_cons_succ,List.getElem_cons_zero,List.setIfInBounds_toArray,List.set_cons_zero,List.set_cons_succ])
    refine wpAnyH_take (i:=4) (v:=?_) rfl (by kernel_rfl) (by kernel_rfl) (by kernel_rfl) (λ_ _ _ h=>h) (Or.inl ⟨by rfl,?_⟩) hHeld ?_
    rotate_left
    ·intro w hSw
     try dsimp only at hSw
     go_simp
     try with_reducible rfl
    (try simp only[Act.put,List.getElem_toArray,List.getElem_cons_succ,List.getElem_cons_zero,List.setIfInBounds_toArray,List.set_cons_zero,List.set_cons_succ])
    refine wpAnyH_take (i:=5) (v:=undef) rfl (by kernel_rfl) (by kernel_rfl) (by kernel_rfl) (λ_ _ _ h=>h) (Or.inr ⟨by rfl,rfl⟩) hHeld ?_
    (try simp only[Act.put,List.getElem_toArray,List.getElem_cons_succ,List.getElem_cons_zero,List.setIfInBounds_toArray,List.set_cons_zero,List.set_cons_succ])
    refine wpAnyH_take (i:=6) (v:=undef) rfl (by kernel_rfl) (by kernel_rfl) (by kernel_rfl) (λ_ _ _ h=>h) (Or.inr ⟨by rfl,rfl⟩) hHeld ?_
    (try simp only[Act.put,List.getElem_toArray,List.getElem_cons_succ,List.getElem_cons_zero,List.setIfInBounds_toArray,List.set_cons_zero,List.set_cons_succ])
    refine wpAnyH_take (i:=7) (v:=undef) rfl (by kernel_rfl) (by kernel_rfl) (by kernel_rfl) (λ_ _ _ h=>h) (Or.inr ⟨by rfl,rfl⟩) hHeld ?_
    (try simp only[Act.put,List.getElem_toArray,List.getElem_cons_succ,List.getElem_cons_zero,List.setIfInBounds_toArray,List.set_cons_zero,List.set_cons_succ])
    refine wpAnyH_take (i:=8) (v:=undef) rfl (by kernel_rfl) (by kernel_rfl) (by kernel_rfl) (λ_ _ _ h=>h) (Or.inr ⟨by rfl,rfl⟩) hHeld ?_
    (try simp only[Act.put,List.getElem_toArray,List.getElem_cons_succ,List.getElem_cons_zero,List.setIfInBounds_toArray,List.set_cons_zero,List.set_cons_succ])
    refine wpAnyH_take (i:=9) (v:=undef) rfl (by kernel_rfl) (by kernel_rfl) (by kernel_rfl) (λ_ _ _ h=>h) (Or.inr ⟨by rfl,rfl⟩) hHeld ?_
    (try simp only[Act.put,List.getElem_toArray,List.getElem_cons_succ,List.getElem_cons_zero,List.setIfInBounds_toArray,List.set_cons_zero,List.set_cons_succ])
    refine wpAnyH_take (i:=10) (v:=undef) rfl (by kernel_rfl) (by kernel_rfl) (by kernel_rfl) (λ_ _ _ h=>h) (Or.inr ⟨by rfl,rfl⟩) hHeld ?_
    (try simp only[Act.put,List.getElem_toArray,List.getElem_cons_succ,List.getElem_cons_zero,List.setIfInBounds_toArray,List.set_cons_zero,List.set_cons_succ])
    refine wpAnyH_take (i:=11) (v:=undef) rfl (by kernel_rfl) (by kernel_rfl) (by kernel_rfl) (λ_ _ _ h=>h) (Or.inr ⟨by rfl,rfl⟩) hHeld ?_
    (try simp only[Act.put,List.getElem_toArray,List.getElem_cons_succ,List.getElem_cons_zero,List.setIfInBounds_toArray,List.set_cons_zero,List.set_cons_succ])
    refine wpAnyH_take (i:=12) (v:=undef) rfl (by kernel_rfl) (by kernel_rfl) (by kernel_rfl) (λ_ _ _ h=>h) (Or.inr ⟨by rfl,rfl⟩) hHeld ?_
    (try simp only[Act.put,List.getElem_toArray,List.getElem_cons_succ,List.getElem_cons_zero,List.setIfInBounds_toArray,List.set_cons_zero,List.set_cons_succ])
    refine wpAnyH_take (i:=13) (v:=undef) rfl (by kernel_rfl) (by kernel_rfl) (by kernel_rfl) (λ_ _ _ h=>h) (Or.inr ⟨by rfl,rfl⟩) hHeld ?_
    (try simp only[Act.put,List.getElem_toArray,List.getElem_cons_succ,List.getElem_cons_zero,List.setIfInBounds_toArray,List.set_cons_zero,List.set_cons_succ])
    refine wpAnyH_take (i:=14) (v:=?_) rfl (by kernel_rfl) (by kernel_rfl) (by kernel_rfl) (λ_ _ _ h=>h) (Or.inl ⟨by rfl,?_⟩) hHeld ?_
    rotate_left
    ·intro w hSw
     try dsimp only at hSw
     go_simp
     try with_reducible rfl
    (try simp only[Act.put,List.getElem_toArray,List.getElem_cons_succ,List.getElem_cons_zero,List.setIfInBounds_toArray,List.set_cons_zero,List.set_cons_succ])
    refine wpAnyH_done (by kernel_rfl) ?_ _
    go_wp2
    all_goals (try (exfalso;go_light;simp_all;done))
    go_roundg (gk-1)
    case measure=>omega
    case rel=>exact ⟨k+1,by omega,by go_num,below_trans HBR.out RB1.out⟩
  ·go_wp2_with fail
   refine (known29_any _ (HWB.out.below HBR.out)).mono ?_
   rintro e w9 ⟨rfl,hb9⟩
   have HB9:=hide (below_trans HBZ0.out hb9)
   go_wp2
   go_ret
   exact ⟨rfl,HB9.out⟩
end Go.Proofs.YtggejcekmehocaaGreatDoor
