/-
  warehouselaw29.InspectBack.
-/
import Derived.Test.YtggejcekmehocaaGreatDoorGbe
import Derived.Test.YtggejcekmehocaaGreatDoorM29M
import Derived.Test.YtggejcekmehocaaGreatDoorGaz
namespace Go.Proofs.YtggejcekmehocaaGreatDoor
set_option maxHeartbeats 8000000
set_option maxRecDepth 100000
open Go.RowKit Go.Maps
set_option linter.unusedSimpArgs false
set_option linter.unusedVariables false
theorem lawBk29_any (w:World)(A:Option Addr)(n c:Nat)(l:List Int)(hl:In w A n c l)(kind:Int)(hk:I64 kind)(hw:Words w):
  Calls Tryz.prog 7 #[.slice A n c,.int .i64 kind] w λe w'=>e=.returned (.bool true)/\Below w.heap.size w w':=by
 have h63:=hl.le
 have HL:=hide hl
 have HW:=hide hw
 clear hl hw
 by_cases q0:200<n
 ·have d0:(200:Int)<(n:Int):=by omega
  go_enter Tryz.func7,Tryz.ntmps7
  go_wp2_with fail
  all_goals (try (exfalso;go_light;simp_all;done))
  refine (known29_any _ HW.out).mono ?_
  rintro e w1 ⟨rfl,hb1⟩
  have SG2:=hide hb1
  clear hb1
  go_wp2
  go_ret
  exact ⟨rfl,SG2.out⟩
 have d0:¬(200:Int)<(n:Int):=by omega
 go_enter Tryz.func7,Tryz.ntmps7
 go_wp2_with fail
 all_goals (try (exfalso;go_light;simp_all;done))
 refine (made29_any _ A n c l HL.out (by omega) kind hk).mono ?_
 rintro e w1 ⟨⟨cc,A',n',c',A'',n'',c'',A3,n3,c3,A1,A2,A5,n5,c5,A6,n6,c6,A7,n7,c7,A8,n8,c8,rows,orows,xs,ys,rfl,hcm,i1,i2,i3,i4,i5,i6,i7,i8,i9,t1,t2,m1,m2⟩,hb1⟩
 have hce:=m29_err cc hcm
 have hle:=m29_len cc hcm
 have hb0:n'<=4096:=by rw[<-i1.len];exact hle.1
 have hb2:n''<=4096:=by rw[<-i2.len];exact hle.2
 obtain ⟨R,O,a,b,E1,E2,E3,E4,E5,E6, -, -⟩:=insp_back hce t1 t2 m1 m2 (by omega) (by omega)
 have HBU:=hide λW (h1:In W A' n' c' cc.cols) (h2:In W A'' n'' c'' cc.ocols) (h3:In W A3 n3 c3 cc.cond) (hw:Words W) (h4:In W A1 3 3 c29) (h5:In W A2 3 3 c29) (h6:In W A5 n5 c5 rows) (h7:In W A6 n6 c6 orows)=>buildI_all W cc A' n' c' h1 A'' n'' c'' h2 A3 n3 c3 h3 hw ⟨#[114]⟩ A1 3 3 c29 h4 none 0 0 A5 n5 c5 rows h6 ⟨#[111]⟩ A2 3 3 c29 h5 none 0 0 A6 n6 c6 orows h7 none 0 0 [] In.nil_ hb0 hb2 (by omega) (by omega)
 have HAP:=hide λW (h1:In W A' n' c' cc.cols) (h2:In W A'' n'' c'' cc.ocols) (h3:In W A3 n3 c3 cc.cond) (hw:Words W) (h4:In W A1 3 3 c29) (h5:In W A2 3 3 c29) B7 p7 d7 (k7:In W B7 p7 d7 (inspOf cc c29 rows orows).rows) B8 p8 d8 (k8:In W B8 p8 d8 (inspOf cc c29 rows orows).other) B9 p9 d9 (k9:In W B9 p9 d9 (inspOf cc c29 rows orows).viol) C7 q7 e7 (x7:In W C7 q7 e7 (xs)) C8 q8 e8 (x8:In W C8 q8 e8 (ys))=>applyI_any W cc A' n' c' h1 A'' n'' c'' h2 A3 n3 c3 h3 hw (inspOf cc c29 rows orows) B7 p7 d7 k7 B8 p8 d8 k8 B9 p9 d9 k9 ⟨#[114]⟩ A1 3 3 c29 h4 none 0 0 C7 q7 e7 (xs) x7 ⟨#[111]⟩ A2 3 3 c29 h5 none 0 0 C8 q8 e8 (ys) x8 none 0 0 [] In.nil_ hb0 hb2 (by omega) (by omega)
 have HAQ:=hide λW (h1:In W A' n' c' cc.cols) (h2:In W A'' n'' c'' cc.ocols) (h3:In W A3 n3 c3 cc.cond) (hw:Words W) (h4:In W A1 3 3 c29) (h5:In W A2 3 3 c29) B7 p7 d7 (k7:In W B7 p7 d7 (inspOf cc c29 R O).rows) B8 p8 d8 (k8:In W B8 p8 d8 (inspOf cc c29 R O).other) B9 p9 d9 (k9:In W B9 p9 d9 (inspOf cc c29 R O).viol) C7 q7 e7 (x7:In W C7 q7 e7 (sg (-1) xs)) C8 q8 e8 (x8:In W C8 q8 e8 (sg (-1) ys))=>applyI_any W cc A' n' c' h1 A'' n'' c'' h2 A3 n3 c3 h3 hw (inspOf cc c29 R O) B7 p7 d7 k7 B8 p8 d8 k8 B9 p9 d9 k9 ⟨#[114]⟩ A1 3 3 c29 h4 none 0 0 C7 q7 e7 (sg (-1) xs) x7 ⟨#[111]⟩ A2 3 3 c29 h5 none 0 0 C8 q8 e8 (sg (-1) ys) x8 none 0 0 [] In.nil_ hb0 hb2 (by omega) (by omega)
 have HNX:=hide λW h=>negate_ref W A7 n7 c7 xs h m1.bag
 have HNY:=hide λW h=>negate_ref W A8 n8 c8 ys h m2.bag
 have HAD:=hide λW B1 p1 d1 (h1:In W B1 p1 d1 a) B2 p2 d2 (h2:In W B2 p2 d2 b)=>add_ref6 W B1 p1 d1 a h1 B2 p2 d2 b h2
 simp only[chkCells,E1,E2,E5,E6]at HBU HAP HAQ HAD
 obtain ⟨IA,hIA⟩: ∃I,inspOf cc c29 rows orows=I:=⟨_,rfl⟩
 obtain ⟨IB,hIB⟩: ∃I,inspOf cc c29 R O=I:=⟨_,rfl⟩
 obtain ⟨SX,hSX⟩: ∃I,sg (-1) xs=I:=⟨_,rfl⟩
 obtain ⟨SY,hSY⟩: ∃I,sg (-1) ys=I:=⟨_,rfl⟩
 rw[hIA]at HBU HAP HAQ
 rw[hIB]at HAP HAQ
 rw[hSX]at HAQ HNX
 rw[hSY]at HAQ HNY
 clear hIA hIB hSX hSY E1 E2 E3 E4 E5 E6 hce hle hcm t1 t2 m1 m2
 have I1:=hide i1
 have I2:=hide i2
 have I3:=hide i3
 have I4:=hide i4
 have I5:=hide i5
 have I6:=hide i6
 have I7:=hide i7
 have I8:=hide i8
 have I9:=hide i9
 have HW1:=hide (HW.out.below hb1)
 have HB1:=hide hb1
 clear i1 i2 i3 i4 i5 i6 i7 i8 i9 hb1
 simp only[chkCells]
 go_upto_region 4 with (fail)
 obtain ⟨W903,hW903⟩: ∃W,W=w1.alloc (.cells #[.string cc.name,.string cc.table,.int .i64 cc.kind,.slice A' n' c',.string cc.other,.slice A'' n'' c'',.int .i64 cc.low,.int .i64 cc.high,.slice A3 n3 c3,.int .i64 cc.ln,.int .i64 cc.ld,.int .i64 cc.mn,.int .i64 cc.md,.int .i64 cc.policy] 27):=⟨_,rfl⟩
 obtain ⟨g1,hg1⟩: ∃q,q=w1.heap.size:=⟨_,rfl⟩
 have KC:Hid (Blk W903 g1 27 [.string cc.name,.string cc.table,.int .i64 cc.kind,.slice A' n' c',.string cc.other,.slice A'' n'' c'',.int .i64 cc.low,.int .i64 cc.high,.slice A3 n3 c3,.int .i64 cc.ln,.int .i64 cc.ld,.int .i64 cc.mn,.int .i64 cc.md,.int .i64 cc.policy]):=hide (by rw[hW903,hg1];exact Blk.made _ _ _)
 have SZg1:Hid (W903.heap.size=g1+1):=hide (by rw[hW903,hg1];exact World.size_alloc _ _)
 have LBg1:Hid (Below w1.heap.size w1 W903):=hide (by rw[hW903];exact below_alloc)
 have HGg1:Hid (w1.heap.size<=g1):=hide (by rw[hg1];exact Nat.le_refl _)
 rw[<-hW903,<-hg1]
 have HEg1:=hide hg1
 clear hW903 hg1
 have LHBg1:=hide LBg1.out
 obtain ⟨W904,hW904⟩: ∃W,W=W903.alloc (.cells #[.string ⟨#[114]⟩,.slice A1 3 3,.slice none 0 0,.slice A5 n5 c5] 32):=⟨_,rfl⟩
 obtain ⟨g2,hg2⟩: ∃q,q=W903.heap.size:=⟨_,rfl⟩
 have KR:Hid (Blk W904 g2 32 [.string ⟨#[114]⟩,.slice A1 3 3,.slice none 0 0,.slice A5 n5 c5]):=hide (by rw[hW904,hg2];exact Blk.made _ _ _)
 have SZg2:Hid (W904.heap.size=g2+1):=hide (by rw[hW904,hg2];exact World.size_alloc _ _)
 have LBg2:Hid (Below W903.heap.size W903 W904):=hide (by rw[hW904];exact below_alloc)
 have HGg2:Hid (w1.heap.size<=g2):=hide (by rw[hg2];exact LHBg1.out.size)
 have NEg1_g2:Hid (¬g1=g2):=hide (by have h:=KC.out.lt;omega)
 have hqg2:g2=g1+1:=by rw[hg2];exact SZg1.out
 rw[<-hW904,<-hqg2]
 clear hqg2
 have HEg2:=hide hg2
 clear hW904 hg2
 have KC:=hide (KC.out.below LBg2.out)
 have LHBg2:=hide (below_trans LHBg1.out LBg2.out)
 obtain ⟨W905,hW905⟩: ∃W,W=W904.alloc (.cells #[.string ⟨#[111]⟩,.slice A2 3 3,.slice none 0 0,.slice A6 n6 c6] 32):=⟨_,rfl⟩
 obtain ⟨g3,hg3⟩: ∃q,q=W904.heap.size:=⟨_,rfl⟩
 have KO:Hid (Blk W905 g3 32 [.string ⟨#[111]⟩,.slice A2 3 3,.slice none 0 0,.slice A6 n6 c6]):=hide (by rw[hW905,hg3];exact Blk.made _ _ _)
 have SZg3:Hid (W905.heap.size=g3+1):=hide (by rw[hW905,hg3];exact World.size_alloc _ _)
 have LBg3:Hid (Below W904.heap.size W904 W905):=hide (by rw[hW905];exact below_alloc)
 have HGg3:Hid (w1.heap.size<=g3):=hide (by rw[hg3];exact LHBg2.out.size)
 have NEg1_g3:Hid (¬g1=g3):=hide (by have h:=KC.out.lt;omega)
 have NEg2_g3:Hid (¬g2=g3):=hide (by have h:=KR.out.lt;omega)
 have hqg3:g3=g2+1:=by rw[hg3];exact SZg2.out
 rw[<-hW905,<-hqg3]
 clear hqg3
 have HEg3:=hide hg3
 clear hW905 hg3
 have KC:=hide (KC.out.below LBg3.out)
 have KR:=hide (KR.out.below LBg3.out)
 have LHBg3:=hide (below_trans LHBg2.out LBg3.out)
 obtain ⟨W906,hW906⟩: ∃W,W=W905.alloc (.cells #[.string ⟨#[114]⟩,.slice A1 3 3,.slice none 0 0,.slice A7 n7 c7] 32):=⟨_,rfl⟩
 obtain ⟨g4,hg4⟩: ∃q,q=W905.heap.size:=⟨_,rfl⟩
 have KX:Hid (Blk W906 g4 32 [.string ⟨#[114]⟩,.slice A1 3 3,.slice none 0 0,.slice A7 n7 c7]):=hide (by rw[hW906,hg4];exact Blk.made _ _ _)
 have SZg4:Hid (W906.heap.size=g4+1):=hide (by rw[hW906,hg4];exact World.size_alloc _ _)
 have LBg4:Hid (Below W905.heap.size W905 W906):=hide (by rw[hW906];exact below_alloc)
 have HGg4:Hid (w1.heap.size<=g4):=hide (by rw[hg4];exact LHBg3.out.size)
 have NEg1_g4:Hid (¬g1=g4):=hide (by have h:=KC.out.lt;omega)
 have NEg2_g4:Hid (¬g2=g4):=hide (by have h:=KR.out.lt;omega)
 have NEg3_g4:Hid (¬g3=g4):=hide (by have h:=KO.out.lt;omega)
 have hqg4:g4=g3+1:=by rw[hg4];exact SZg3.out
 rw[<-hW906,<-hqg4]
 clear hqg4
 have HEg4:=hide hg4
 clear hW906 hg4
 have KC:=hide (KC.out.below LBg4.out)
 have KR:=hide (KR.out.below LBg4.out)
 have KO:=hide (KO.out.below LBg4.out)
 have LHBg4:=hide (below_trans LHBg3.out LBg4.out)
 obtain ⟨W907,hW907⟩: ∃W,W=W906.alloc (.cells #[.string ⟨#[111]⟩,.slice A2 3 3,.slice none 0 0,.slice A8 n8 c8] 32):=⟨_,rfl⟩
 obtain ⟨g5,hg5⟩: ∃q,q=W906.heap.size:=⟨_,rfl⟩
 have KY:Hid (Blk W907 g5 32 [.string ⟨#[111]⟩,.slice A2 3 3,.slice none 0 0,.slice A8 n8 c8]):=hide (by rw[hW907,hg5];exact Blk.made _ _ _)
 have SZg5:Hid (W907.heap.size=g5+1):=hide (by rw[hW907,hg5];exact World.size_alloc _ _)
 have LBg5:Hid (Below W906.heap.size W906 W907):=hide (by rw[hW907];exact below_alloc)
 have HGg5:Hid (w1.heap.size<=g5):=hide (by rw[hg5];exact LHBg4.out.size)
 have NEg1_g5:Hid (¬g1=g5):=hide (by have h:=KC.out.lt;omega)
 have NEg2_g5:Hid (¬g2=g5):=hide (by have h:=KR.out.lt;omega)
 have NEg3_g5:Hid (¬g3=g5):=hide (by have h:=KO.out.lt;omega)
 have NEg4_g5:Hid (¬g4=g5):=hide (by have h:=KX.out.lt;omega)
 have hqg5:g5=g4+1:=by rw[hg5];exact SZg4.out
 rw[<-hW907,<-hqg5]
 clear hqg5
 have HEg5:=hide hg5
 clear hW907 hg5
 have KC:=hide (KC.out.below LBg5.out)
 have KR:=hide (KR.out.below LBg5.out)
 have KO:=hide (KO.out.below LBg5.out)
 have KX:=hide (KX.out.below LBg5.out)
 have LHBg5:=hide (below_trans LHBg4.out LBg5.out)
 obtain ⟨LTKC,g0,g1,g2,g3,g4,g5,g6,g7,g8,g9,g10,g11,g12,g13⟩:=KC.out.ats14
 obtain ⟨LTKR,r0,r1,r2,r3⟩:=KR.out.ats4
 obtain ⟨LTKO,s0,s1,s2,s3⟩:=KO.out.ats4
 have hs1:=LHBg5.out.size
 go_wp2_with fail
 refine (HBU.out _ (I1.out.below LHBg5.out) (I2.out.below LHBg5.out) (I3.out.below LHBg5.out) (HW1.out.below LHBg5.out) (I4.out.below LHBg5.out) (I5.out.below LHBg5.out) (I6.out.below LHBg5.out) (I7.out.below LHBg5.out)).mono ?_
 rintro e w8 ⟨⟨v7,v8,v9,rfl,h7,h8,h9⟩,hb8⟩
 clear LTKC g0 g1 g2 g3 g4 g5 g6 g7 g8 g9 g10 g11 g12 g13 LTKR r0 r1 r2 r3 LTKO s0 s1 s2 s3
 have KC:=hide (KC.out.below hb8)
 have KR:=hide (KR.out.below hb8)
 have KO:=hide (KO.out.below hb8)
 have KX:=hide (KX.out.below hb8)
 have KY:=hide (KY.out.below hb8)
 have LHC8:=hide (below_trans LHBg5.out hb8)
 clear hb8
 replace h7:=h7.rebase hs1
 obtain ⟨Aa,ca,rfl⟩:=h7.form
 obtain ⟨la,laq⟩: ∃m,IA.rows.length=m:=⟨_,rfl⟩
 rw[laq]at h7⊢
 have HAL:=hide laq
 clear laq
 replace h8:=h8.rebase hs1
 obtain ⟨Ab,cb,rfl⟩:=h8.form
 obtain ⟨lb,lbq⟩: ∃m,IA.other.length=m:=⟨_,rfl⟩
 rw[lbq]at h8⊢
 have HBL:=hide lbq
 clear lbq
 replace h9:=h9.rebase hs1
 obtain ⟨Ac,cc1,rfl⟩:=h9.form
 obtain ⟨lc,lcq⟩: ∃m,IA.viol.length=m:=⟨_,rfl⟩
 rw[lcq]at h9⊢
 have HCL:=hide lcq
 clear lcq
 have HA:=hide h7
 clear h7
 have HB:=hide h8
 clear h8
 have HC:=hide h9
 clear h9
 clear hs1
 go_upto_region 5 with (fail)
 obtain ⟨W909,hW909⟩: ∃W,W=w8.alloc (.cells #[.slice Aa la ca,.slice Ab lb cb,.slice Ac lc cc1] 36):=⟨_,rfl⟩
 obtain ⟨g6,hg6⟩: ∃q,q=w8.heap.size:=⟨_,rfl⟩
 have KI:Hid (Blk W909 g6 36 [.slice Aa la ca,.slice Ab lb cb,.slice Ac lc cc1]):=hide (by rw[hW909,hg6];exact Blk.made _ _ _)
 have SZg6:Hid (W909.heap.size=g6+1):=hide (by rw[hW909,hg6];exact World.size_alloc _ _)
 have LBg6:Hid (Below w8.heap.size w8 W909):=hide (by rw[hW909];exact below_alloc)
 have HGg6:Hid (w1.heap.size<=g6):=hide (by rw[hg6];exact LHC8.out.size)
 have NEg1_g6:Hid (¬g1=g6):=hide (by have h:=KC.out.lt;omega)
 have NEg2_g6:Hid (¬g2=g6):=hide (by have h:=KR.out.lt;omega)
 have NEg3_g6:Hid (¬g3=g6):=hide (by have h:=KO.out.lt;omega)
 have NEg4_g6:Hid (¬g4=g6):=hide (by have h:=KX.out.lt;omega)
 have NEg5_g6:Hid (¬g5=g6):=hide (by have h:=KY.out.lt;omega)
 rw[<-hW909,<-hg6]
 have HEg6:=hide hg6
 clear hW909 hg6
 have KC:=hide (KC.out.below LBg6.out)
 have KR:=hide (KR.out.below LBg6.out)
 have KO:=hide (KO.out.below LBg6.out)
 have KX:=hide (KX.out.below LBg6.out)
 have KY:=hide (KY.out.below LBg6.out)
 have HA:=hide (HA.out.below LBg6.out)
 have HB:=hide (HB.out.below LBg6.out)
 have HC:=hide (HC.out.below LBg6.out)
 have LHBg6:=hide (below_trans LHC8.out LBg6.out)
 obtain ⟨LTKC,g0,g1,g2,g3,g4,g5,g6,g7,g8,g9,g10,g11,g12,g13⟩:=KC.out.ats14
 obtain ⟨LTKI,i0,i1,i2⟩:=KI.out.ats3
 obtain ⟨LTKX,x0,x1,x2,x3⟩:=KX.out.ats4
 obtain ⟨LTKY,y0,y1,y2,y3⟩:=KY.out.ats4
 have hs2:=LHBg6.out.size
 go_wp2_with fail
 refine (HAP.out _ (I1.out.below LHBg6.out) (I2.out.below LHBg6.out) (I3.out.below LHBg6.out) (HW1.out.below LHBg6.out) (I4.out.below LHBg6.out) (I5.out.below LHBg6.out) _ _ _ (ol_in HA.out HAL.out) _ _ _ (ol_in HB.out HBL.out) _ _ _ (ol_in HC.out HCL.out) _ _ _ (I8.out.below LHBg6.out) _ _ _ (I9.out.below LHBg6.out)).mono ?_
 rintro e w10 ⟨⟨v7,v8,v9,v0,rfl,h7,h8,h9,h0⟩,hb10⟩
 clear LTKC g0 g1 g2 g3 g4 g5 g6 g7 g8 g9 g10 g11 g12 g13 LTKI i0 i1 i2 LTKX x0 x1 x2 x3 LTKY y0 y1 y2 y3
 have KC:=hide (KC.out.below hb10)
 have KR:=hide (KR.out.below hb10)
 have KO:=hide (KO.out.below hb10)
 have KX:=hide (KX.out.below hb10)
 have KY:=hide (KY.out.below hb10)
 have KI:=hide (KI.out.below hb10)
 have HA:=hide (HA.out.below hb10)
 have HB:=hide (HB.out.below hb10)
 have HC:=hide (HC.out.below hb10)
 have LHC10:=hide (below_trans LHBg6.out hb10)
 clear hb10
 replace h7:=h7.rebase hs2
 obtain ⟨Ad,cd,rfl⟩:=h7.form
 obtain ⟨ld,ldq⟩: ∃m,IB.rows.length=m:=⟨_,rfl⟩
 rw[ldq]at h7⊢
 have HDL:=hide ldq
 clear ldq
 replace h8:=h8.rebase hs2
 obtain ⟨Ae,ce,rfl⟩:=h8.form
 obtain ⟨le,leq⟩: ∃m,IB.other.length=m:=⟨_,rfl⟩
 rw[leq]at h8⊢
 have HEL:=hide leq
 clear leq
 replace h9:=h9.rebase hs2
 obtain ⟨Af,cf,rfl⟩:=h9.form
 obtain ⟨lf,lfq⟩: ∃m,IB.viol.length=m:=⟨_,rfl⟩
 rw[lfq]at h9⊢
 have HFL:=hide lfq
 clear lfq
 replace h0:=h0.rebase hs2
 obtain ⟨Ag,cg,rfl⟩:=h0.form
 obtain ⟨lg,lgq⟩: ∃m,a.length=m:=⟨_,rfl⟩
 rw[lgq]at h0⊢
 have HGL:=hide lgq
 clear lgq
 have HD:=hide h7
 clear h7
 have HE:=hide h8
 clear h8
 have HF:=hide h9
 clear h9
 have HG:=hide h0
 clear h0
 clear hs2
 go_upto_region 6 with (fail)
 obtain ⟨W911,hW911⟩: ∃W,W=w10.alloc (.cells #[.slice Ad ld cd,.slice Ae le ce,.slice Af lf cf] 36):=⟨_,rfl⟩
 obtain ⟨g7,hg7⟩: ∃q,q=w10.heap.size:=⟨_,rfl⟩
 have KJ:Hid (Blk W911 g7 36 [.slice Ad ld cd,.slice Ae le ce,.slice Af lf cf]):=hide (by rw[hW911,hg7];exact Blk.made _ _ _)
 have SZg7:Hid (W911.heap.size=g7+1):=hide (by rw[hW911,hg7];exact World.size_alloc _ _)
 have LBg7:Hid (Below w10.heap.size w10 W911):=hide (by rw[hW911];exact below_alloc)
 have HGg7:Hid (w1.heap.size<=g7):=hide (by rw[hg7];exact LHC10.out.size)
 have NEg1_g7:Hid (¬g1=g7):=hide (by have h:=KC.out.lt;omega)
 have NEg2_g7:Hid (¬g2=g7):=hide (by have h:=KR.out.lt;omega)
 have NEg3_g7:Hid (¬g3=g7):=hide (by have h:=KO.out.lt;omega)
 have NEg4_g7:Hid (¬g4=g7):=hide (by have h:=KX.out.lt;omega)
 have NEg5_g7:Hid (¬g5=g7):=hide (by have h:=KY.out.lt;omega)
 have NEg6_g7:Hid (¬g6=g7):=hide (by have h:=KI.out.lt;omega)
 rw[<-hW911,<-hg7]
 have HEg7:=hide hg7
 clear hW911 hg7
 have KC:=hide (KC.out.below LBg7.out)
 have KR:=hide (KR.out.below LBg7.out)
 have KO:=hide (KO.out.below LBg7.out)
 have KX:=hide (KX.out.below LBg7.out)
 have KY:=hide (KY.out.below LBg7.out)
 have KI:=hide (KI.out.below LBg7.out)
 have HA:=hide (HA.out.below LBg7.out)
 have HB:=hide (HB.out.below LBg7.out)
 have HC:=hide (HC.out.below LBg7.out)
 have HD:=hide (HD.out.below LBg7.out)
 have HE:=hide (HE.out.below LBg7.out)
 have HF:=hide (HF.out.below LBg7.out)
 have HG:=hide (HG.out.below LBg7.out)
 have LHBg7:=hide (below_trans LHC10.out LBg7.out)
 obtain ⟨LTKX,x0,x1,x2,x3⟩:=KX.out.ats4
 have hs3:=LHBg7.out.size
 go_wp2_with fail
 refine (HNX.out _ (I8.out.below LHBg7.out)).mono ?_
 rintro e w12 ⟨⟨v0,rfl,h0⟩,hb12⟩
 clear LTKX x0 x1 x2 x3
 have KC:=hide (KC.out.below hb12)
 have KR:=hide (KR.out.below hb12)
 have KO:=hide (KO.out.below hb12)
 have KX:=hide (KX.out.below hb12)
 have KY:=hide (KY.out.below hb12)
 have KI:=hide (KI.out.below hb12)
 have KJ:=hide (KJ.out.below hb12)
 have HA:=hide (HA.out.below hb12)
 have HB:=hide (HB.out.below hb12)
 have HC:=hide (HC.out.below hb12)
 have HD:=hide (HD.out.below hb12)
 have HE:=hide (HE.out.below hb12)
 have HF:=hide (HF.out.below hb12)
 have HG:=hide (HG.out.below hb12)
 have LHC12:=hide (below_trans LHBg7.out hb12)
 clear hb12
 replace h0:=h0.rebase hs3
 obtain ⟨Ah,ch,rfl⟩:=h0.form
 obtain ⟨lh,lhq⟩: ∃m,SX.length=m:=⟨_,rfl⟩
 rw[lhq]at h0⊢
 have HXL:=hide lhq
 clear lhq
 have HX:=hide h0
 clear h0
 clear hs3
 obtain ⟨LTKX,x0,x1,x2,x3⟩:=KX.out.ats4
 have fx0:=KX.out.fz 0
 have fx1:=KX.out.fz 1
 have fx2:=KX.out.fz 2
 have fx3:=KX.out.fz 3
 go_upto_region 7 with (fail)
 obtain ⟨W913,hW913⟩: ∃W,W=(w12.setCell ⟨g4,3,none⟩ (.slice Ah lh ch)):=⟨_,rfl⟩
 clear LTKX x0 x1 x2 x3 fx0 fx1 fx2 fx3
 have HA:=hide (HA.out.off KX.out.ty (.inr λ_ h=>h) (by decide) (by decide) 3 (.slice Ah lh ch))
 rw[<-hW913]at HA
 have HB:=hide (HB.out.off KX.out.ty (.inr λ_ h=>h) (by decide) (by decide) 3 (.slice Ah lh ch))
 rw[<-hW913]at HB
 have HC:=hide (HC.out.off KX.out.ty (.inr λ_ h=>h) (by decide) (by decide) 3 (.slice Ah lh ch))
 rw[<-hW913]at HC
 have HD:=hide (HD.out.off KX.out.ty (.inr λ_ h=>h) (by decide) (by decide) 3 (.slice Ah lh ch))
 rw[<-hW913]at HD
 have HE:=hide (HE.out.off KX.out.ty (.inr λ_ h=>h) (by decide) (by decide) 3 (.slice Ah lh ch))
 rw[<-hW913]at HE
 have HF:=hide (HF.out.off KX.out.ty (.inr λ_ h=>h) (by decide) (by decide) 3 (.slice Ah lh ch))
 rw[<-hW913]at HF
 have HG:=hide (HG.out.off KX.out.ty (.inr λ_ h=>h) (by decide) (by decide) 3 (.slice Ah lh ch))
 rw[<-hW913]at HG
 have HX:=hide (HX.out.off KX.out.ty (.inr λ_ h=>h) (by decide) (by decide) 3 (.slice Ah lh ch))
 rw[<-hW913]at HX
 have KC:=hide (KC.out.far NEg1_g4.out 3 (.slice Ah lh ch))
 rw[<-hW913]at KC
 have KR:=hide (KR.out.far NEg2_g4.out 3 (.slice Ah lh ch))
 rw[<-hW913]at KR
 have KO:=hide (KO.out.far NEg3_g4.out 3 (.slice Ah lh ch))
 rw[<-hW913]at KO
 have KY:=hide (KY.out.far (λh=>NEg4_g5.out h.symm) 3 (.slice Ah lh ch))
 rw[<-hW913]at KY
 have KI:=hide (KI.out.far (λh=>NEg4_g6.out h.symm) 3 (.slice Ah lh ch))
 rw[<-hW913]at KI
 have KJ:=hide (KJ.out.far (λh=>NEg4_g7.out h.symm) 3 (.slice Ah lh ch))
 rw[<-hW913]at KJ
 have KX:=hide (KX.out.set 3 (.slice Ah lh ch))
 rw[<-hW913]at KX
 simp only[List.set_cons_zero,List.set_cons_succ]at KX
 have LHS13:=hide (below_set LHC12.out HGg4.out 3 (.slice Ah lh ch))
 rw[<-hW913]at LHS13
 rw[<-hW913]
 clear hW913
 obtain ⟨LTKY,y0,y1,y2,y3⟩:=KY.out.ats4
 have hs4:=LHS13.out.size
 go_wp2_with fail
 refine (HNY.out _ (I9.out.below LHS13.out)).mono ?_
 rintro e w14 ⟨⟨v0,rfl,h0⟩,hb14⟩
 clear LTKY y0 y1 y2 y3
 have KC:=hide (KC.out.below hb14)
 have KR:=hide (KR.out.below hb14)
 have KO:=hide (KO.out.below hb14)
 have KX:=hide (KX.out.below hb14)
 have KY:=hide (KY.out.below hb14)
 have KI:=hide (KI.out.below hb14)
 have KJ:=hide (KJ.out.below hb14)
 have HA:=hide (HA.out.below hb14)
 have HB:=hide (HB.out.below hb14)
 have HC:=hide (HC.out.below hb14)
 have HD:=hide (HD.out.below hb14)
 have HE:=hide (HE.out.below hb14)
 have HF:=hide (HF.out.below hb14)
 have HG:=hide (HG.out.below hb14)
 have HX:=hide (HX.out.below hb14)
 have LHC14:=hide (below_trans LHS13.out hb14)
 clear hb14
 replace h0:=h0.rebase hs4
 obtain ⟨Ai,ci,rfl⟩:=h0.form
 obtain ⟨li,liq⟩: ∃m,SY.length=m:=⟨_,rfl⟩
 rw[liq]at h0⊢
 have HYL:=hide liq
 clear liq
 have HY:=hide h0
 clear h0
 clear hs4
 obtain ⟨LTKY,y0,y1,y2,y3⟩:=KY.out.ats4
 have fy0:=KY.out.fz 0
 have fy1:=KY.out.fz 1
 have fy2:=KY.out.fz 2
 have fy3:=KY.out.fz 3
 go_upto_region 8 with (fail)
 obtain ⟨W915,hW915⟩: ∃W,W=(w14.setCell ⟨g5,3,none⟩ (.slice Ai li ci)):=⟨_,rfl⟩
 clear LTKY y0 y1 y2 y3 fy0 fy1 fy2 fy3
 have HA:=hide (HA.out.off KY.out.ty (.inr λ_ h=>h) (by decide) (by decide) 3 (.slice Ai li ci))
 rw[<-hW915]at HA
 have HB:=hide (HB.out.off KY.out.ty (.inr λ_ h=>h) (by decide) (by decide) 3 (.slice Ai li ci))
 rw[<-hW915]at HB
 have HC:=hide (HC.out.off KY.out.ty (.inr λ_ h=>h) (by decide) (by decide) 3 (.slice Ai li ci))
 rw[<-hW915]at HC
 have HD:=hide (HD.out.off KY.out.ty (.inr λ_ h=>h) (by decide) (by decide) 3 (.slice Ai li ci))
 rw[<-hW915]at HD
 have HE:=hide (HE.out.off KY.out.ty (.inr λ_ h=>h) (by decide) (by decide) 3 (.slice Ai li ci))
 rw[<-hW915]at HE
 have HF:=hide (HF.out.off KY.out.ty (.inr λ_ h=>h) (by decide) (by decide) 3 (.slice Ai li ci))
 rw[<-hW915]at HF
 have HG:=hide (HG.out.off KY.out.ty (.inr λ_ h=>h) (by decide) (by decide) 3 (.slice Ai li ci))
 rw[<-hW915]at HG
 have HX:=hide (HX.out.off KY.out.ty (.inr λ_ h=>h) (by decide) (by decide) 3 (.slice Ai li ci))
 rw[<-hW915]at HX
 have HY:=hide (HY.out.off KY.out.ty (.inr λ_ h=>h) (by decide) (by decide) 3 (.slice Ai li ci))
 rw[<-hW915]at HY
 have KC:=hide (KC.out.far NEg1_g5.out 3 (.slice Ai li ci))
 rw[<-hW915]at KC
 have KR:=hide (KR.out.far NEg2_g5.out 3 (.slice Ai li ci))
 rw[<-hW915]at KR
 have KO:=hide (KO.out.far NEg3_g5.out 3 (.slice Ai li ci))
 rw[<-hW915]at KO
 have KX:=hide (KX.out.far NEg4_g5.out 3 (.slice Ai li ci))
 rw[<-hW915]at KX
 have KI:=hide (KI.out.far (λh=>NEg5_g6.out h.symm) 3 (.slice Ai li ci))
 rw[<-hW915]at KI
 have KJ:=hide (KJ.out.far (λh=>NEg5_g7.out h.symm) 3 (.slice Ai li ci))
 rw[<-hW915]at KJ
 have KY:=hide (KY.out.set 3 (.slice Ai li ci))
 rw[<-hW915]at KY
 simp only[List.set_cons_zero,List.set_cons_succ]at KY
 have LHS15:=hide (below_set LHC14.out HGg5.out 3 (.slice Ai li ci))
 rw[<-hW915]at LHS15
 rw[<-hW915]
 clear hW915
 obtain ⟨LTKC,g0,g1,g2,g3,g4,g5,g6,g7,g8,g9,g10,g11,g12,g13⟩:=KC.out.ats14
 obtain ⟨LTKJ,j0,j1,j2⟩:=KJ.out.ats3
 obtain ⟨LTKX,x0,x1,x2,x3⟩:=KX.out.ats4
 obtain ⟨LTKY,y0,y1,y2,y3⟩:=KY.out.ats4
 have hs5:=LHS15.out.size
 go_wp2_with fail
 refine (HAQ.out _ (I1.out.below LHS15.out) (I2.out.below LHS15.out) (I3.out.below LHS15.out) (HW1.out.below LHS15.out) (I4.out.below LHS15.out) (I5.out.below LHS15.out) _ _ _ (ol_in HD.out HDL.out) _ _ _ (ol_in HE.out HEL.out) _ _ _ (ol_in HF.out HFL.out) _ _ _ (ol_in HX.out HXL.out) _ _ _ (ol_in HY.out HYL.out)).mono ?_
 rintro e w16 ⟨⟨v7,v8,v9,v0,rfl,h7,h8,h9,h0⟩,hb16⟩
 clear LTKC g0 g1 g2 g3 g4 g5 g6 g7 g8 g9 g10 g11 g12 g13 LTKJ j0 j1 j2 LTKX x0 x1 x2 x3 LTKY y0 y1 y2 y3
 have KC:=hide (KC.out.below hb16)
 have KR:=hide (KR.out.below hb16)
 have KO:=hide (KO.out.below hb16)
 have KX:=hide (KX.out.below hb16)
 have KY:=hide (KY.out.below hb16)
 have KI:=hide (KI.out.below hb16)
 have KJ:=hide (KJ.out.below hb16)
 have HA:=hide (HA.out.below hb16)
 have HB:=hide (HB.out.below hb16)
 have HC:=hide (HC.out.below hb16)
 have HG:=hide (HG.out.below hb16)
 have LHC16:=hide (below_trans LHS15.out hb16)
 clear hb16
 replace h7:=h7.rebase hs5
 obtain ⟨Aj,cj,rfl⟩:=h7.form
 obtain ⟨lj,ljq⟩: ∃m,IA.rows.length=m:=⟨_,rfl⟩
 rw[ljq]at h7⊢
 have HJL:=hide ljq
 clear ljq
 replace h8:=h8.rebase hs5
 obtain ⟨Ak,ck,rfl⟩:=h8.form
 obtain ⟨lk,lkq⟩: ∃m,IA.other.length=m:=⟨_,rfl⟩
 rw[lkq]at h8⊢
 have HKL:=hide lkq
 clear lkq
 replace h9:=h9.rebase hs5
 obtain ⟨Al,cl,rfl⟩:=h9.form
 obtain ⟨ll,llq⟩: ∃m,IA.viol.length=m:=⟨_,rfl⟩
 rw[llq]at h9⊢
 have HML:=hide llq
 clear llq
 replace h0:=h0.rebase hs5
 obtain ⟨Am,cm,rfl⟩:=h0.form
 obtain ⟨lm,lmq⟩: ∃m,b.length=m:=⟨_,rfl⟩
 rw[lmq]at h0⊢
 have HNL:=hide lmq
 clear lmq
 have HJ:=hide h7
 clear h7
 have HK:=hide h8
 clear h8
 have HM:=hide h9
 clear h9
 have HN:=hide h0
 clear h0
 clear hs5
 go_upto_region 9 with (fail)
 obtain ⟨W917,hW917⟩: ∃W,W=w16.alloc (.cells #[.slice Aj lj cj,.slice Ak lk ck,.slice Al ll cl] 36):=⟨_,rfl⟩
 obtain ⟨g8,hg8⟩: ∃q,q=w16.heap.size:=⟨_,rfl⟩
 have KK:Hid (Blk W917 g8 36 [.slice Aj lj cj,.slice Ak lk ck,.slice Al ll cl]):=hide (by rw[hW917,hg8];exact Blk.made _ _ _)
 have SZg8:Hid (W917.heap.size=g8+1):=hide (by rw[hW917,hg8];exact World.size_alloc _ _)
 have LBg8:Hid (Below w16.heap.size w16 W917):=hide (by rw[hW917];exact below_alloc)
 have HGg8:Hid (w1.heap.size<=g8):=hide (by rw[hg8];exact LHC16.out.size)
 have NEg1_g8:Hid (¬g1=g8):=hide (by have h:=KC.out.lt;omega)
 have NEg2_g8:Hid (¬g2=g8):=hide (by have h:=KR.out.lt;omega)
 have NEg3_g8:Hid (¬g3=g8):=hide (by have h:=KO.out.lt;omega)
 have NEg4_g8:Hid (¬g4=g8):=hide (by have h:=KX.out.lt;omega)
 have NEg5_g8:Hid (¬g5=g8):=hide (by have h:=KY.out.lt;omega)
 have NEg6_g8:Hid (¬g6=g8):=hide (by have h:=KI.out.lt;omega)
 have NEg7_g8:Hid (¬g7=g8):=hide (by have h:=KJ.out.lt;omega)
 rw[<-hW917,<-hg8]
 have HEg8:=hide hg8
 clear hW917 hg8
 have KI:=hide (KI.out.below LBg8.out)
 have HA:=hide (HA.out.below LBg8.out)
 have HB:=hide (HB.out.below LBg8.out)
 have HC:=hide (HC.out.below LBg8.out)
 have HG:=hide (HG.out.below LBg8.out)
 have HJ:=hide (HJ.out.below LBg8.out)
 have HK:=hide (HK.out.below LBg8.out)
 have HM:=hide (HM.out.below LBg8.out)
 have HN:=hide (HN.out.below LBg8.out)
 have LHBg8:=hide (below_trans LHC16.out LBg8.out)
 go_wp2_with fail
 refine (HAD.out _ _ _ _ (ol_in HG.out HGL.out) _ _ _ (ol_in HN.out HNL.out)).mono ?_
 rintro e w18 ⟨⟨v0,rfl,h0⟩,hb18⟩
 have KI:=hide (KI.out.below hb18)
 have KK:=hide (KK.out.below hb18)
 have HA:=hide (HA.out.below hb18)
 have HB:=hide (HB.out.below hb18)
 have HC:=hide (HC.out.below hb18)
 have HJ:=hide (HJ.out.below hb18)
 have HK:=hide (HK.out.below hb18)
 have HM:=hide (HM.out.below hb18)
 have LHC18:=hide (below_trans LHBg8.out hb18)
 clear hb18
 obtain ⟨An,cn,rfl⟩:=h0.form
 clear h0
 go_upto_region 10 with (fail)
 obtain ⟨LTKI,i0,i1,i2⟩:=KI.out.ats3
 obtain ⟨LTKK,z0,z1,z2⟩:=KK.out.ats3
 go_wp2_with fail
 refine (same29_any _ IA _ _ _ (ol_in HA.out HAL.out) _ _ _ (ol_in HB.out HBL.out) _ _ _ (ol_in HC.out HCL.out) _ _ _ (ol_in HJ.out HJL.out) _ _ _ (ol_in HK.out HKL.out) _ _ _ (ol_in HM.out HML.out)).mono ?_
 rintro e w19 ⟨rfl,hb19⟩
 clear LTKI i0 i1 i2 LTKK z0 z1 z2
 have LHC19:=hide (below_trans LHC18.out hb19)
 clear hb19
 go_wp2_with fail
 refine (known29_any _ (HW1.out.below LHC19.out)).mono ?_
 rintro e w20 ⟨rfl,hb20⟩
 have LHC20:=hide (below_trans LHC19.out hb20)
 clear hb20
 go_wp2
 go_ret
 exact ⟨rfl,below_trans HB1.out LHC20.out⟩
end Go.Proofs.YtggejcekmehocaaGreatDoor
