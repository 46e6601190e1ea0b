/-
  inspect.Apply. (Printed by gen_insa.py.) inspect.text, index: the texts of the picked values of a change. (Printed by gen_inst.py.)
-/
import Derived.Test.YtggejcekmehocaaGreatDoorInsS
import Derived.Test.YtggejcekmehocaaGreatDoorGav
namespace Go.Proofs.YtggejcekmehocaaGreatDoor
set_option maxHeartbeats 8000000
set_option maxRecDepth 100000
open Go.RowKit Go.Maps
set_option linter.unusedSimpArgs false
set_option linter.unusedVariables false
def applyT (viol:List Ent)(R:Int×Insp):Int×Insp×List Ent:=
 if R.1≠0 then (R.1,noInsp,[]) else if (subS R.2.viol viol).1≠0 then ((subS R.2.viol viol).1,noInsp,[]) else (0,R.2,(subS R.2.viol viol).2)
def applyS (c:Chk)(i:Insp)(rc oc:List Col)(rr orr:List Ent)(zs:List Zone):Int×Insp×List Ent:=
 if (sumsS c i rr orr).1≠0 then ((sumsS c i rr orr).1,noInsp,[]) else applyT i.viol (buildS c rc oc (sumsS c i rr orr).2.1 (sumsS c i rr orr).2.2 zs)
def AppOut (B:Nat)(w:World)(e:Ending)(J:Int×Insp×List Ent):Prop:=
 ∃v7 v8 v9 v0,e=.returned (.tuple #[.agg #[v7,v8,v9],v0,.int .i64 J.1])/\OE B w v7 J.2.1.rows/\OE B w v8 J.2.1.other/\OE B w v9 J.2.1.viol/\OE B w v0 J.2.2
theorem insp_fin {w0 W W':World}{g:Nat}{lz:List Value}(hz:Blk W g 36 lz)(lz3:lz.length=3)(hg:w0.heap.size<=g)(hb:Below w0.heap.size w0 W)(a0 a1 a2:Value)(hW:W'=((W.setCell ⟨g,0,none⟩ a0).setCell ⟨g,1,none⟩ a1).setCell ⟨g,2,none⟩ a2):
  (∀j v,[a0,a1,a2][j]?=some v->W'.cell? ⟨g,j,none⟩=some v)/\Below w0.heap.size w0 W'/\ ∀{v:Value} {xs:List Ent},OE w0.heap.size W v xs->OE w0.heap.size W' v xs:=by
 subst hW
 have t0:=hz.ty
 exact ⟨(hz.set3 lz3 (a0:=a0) (a1:=a1) (a2:=a2)).all,below_set (below_set (below_set hb hg 0 a0) hg 1 a1) hg 2 a2,λho=>((ho.off t0 (.inr λ_ h=>h) (by decide) (by decide) 0 a0).off (t0.set g 0 a0) (.inr λ_ h=>h) (by decide) (by decide) 1 a1).off ((t0.set g 0 a0).set g 1 a1) (.inr λ_ h=>h) (by decide) (by decide) 2 a2⟩
theorem applyI_any (w:World)(x:Chk)(A:Option Addr)(n c:Nat)(hn:In w A n c x.cols)(A':Option Addr)(n' c':Nat)(hn':In w A' n' c' x.ocols)(A'':Option Addr)(n'' c'':Nat)(hq:In w A'' n'' c'' x.cond)(hw:Words w)(i:Insp)(B7:Option Addr)(m7 d7:Nat)(hi7:In w B7 m7 d7 i.rows)(B8:Option Addr)(m8 d8:Nat)(hi8:In w B8 m8 d8 i.other)(B9:Option Addr)(m9 d9:Nat)(hi9:In w B9 m9 d9 i.viol)(rn:ByteArray)(A1:Option Addr)(n1 c1:Nat)(cols:List Col)(hc:In w A1 n1 c1 cols)(Ak:Option Addr)(nk ck:Nat)(A3:Option Addr)(n3 c3:Nat)(rows:List Ent)(hr:In w A3 n3 c3 rows)(on:ByteArray)(A2:Option Addr)(n2 c2:Nat)(ocols:List Col)(ho:In w A2 n2 c2 ocols)(Al:Option Addr)(nl cl:Nat)(A4:Option Addr)(n4 c4:Nat)(orows:List Ent)(hor:In w A4 n4 c4 orows)(A5:Option Addr)(n5 c5:Nat)(zs:List Zone)(hz:In w A5 n5 c5 zs)(hb0:n<=4096)(hb1:n'<=4096)(hb2:n1<=4096)(hb3:n2<=4096):
  Calls Tryz.prog 17 #[.agg (chkCells x A n c A' n' c' A'' n'' c'').toArray,.agg #[.slice B7 m7 d7,.slice B8 m8 d8,.slice B9 m9 d9],.agg #[.string rn,.slice A1 n1 c1,.slice Ak nk ck,.slice A3 n3 c3],.agg #[.string on,.slice A2 n2 c2,.slice Al nl cl,.slice A4 n4 c4],.slice A5 n5 c5] w
   λe w'=>AppOut w.heap.size w' e (applyS x i cols ocols rows orows zs)/\Below w.heap.size w w':=by
 have HSU:=hide λW h1 h2 h3 h4=>sums_any W x A n c A' n' c' A'' n'' c'' i B7 m7 d7 h1 B8 m8 d8 h2 B9 m9 d9 rn A1 n1 c1 Ak nk ck A3 n3 c3 rows h3 on A2 n2 c2 Al nl cl A4 n4 c4 orows h4
 have HD:=hide (show applyS x i cols ocols rows orows zs=if (sumsS x i rows orows).1≠0 then ((sumsS x i rows orows).1,noInsp,[]) else applyT i.viol (buildS x cols ocols (sumsS x i rows orows).2.1 (sumsS x i rows orows).2.2 zs) from rfl)
 obtain ⟨⟨ES,RS,OS⟩,hSS⟩: ∃q,sumsS x i rows orows=q:=⟨_,rfl⟩
 rw[hSS]at HSU HD
 obtain ⟨⟨EB,IB⟩,hSB⟩: ∃q,buildS x cols ocols RS OS zs=q:=⟨_,rfl⟩
 have HBU:=hide λW hn hn' hq hw hc B3 m3 d3 hr ho E3 l3 e3 hor hz=>buildI_all W x A n c hn A' n' c' hn' A'' n'' c'' hq hw rn A1 n1 c1 cols hc Ak nk ck B3 m3 d3 RS hr on A2 n2 c2 ocols ho Al nl cl E3 l3 e3 OS hor A5 n5 c5 zs hz hb0 hb1 hb2 hb3
 simp only[hSB]at HD HBU
 obtain ⟨⟨EU,LU⟩,hSU⟩: ∃q,subS IB.viol i.viol=q:=⟨_,rfl⟩
 have HT:Hid (applyT i.viol (EB,IB)=if EB≠0 then (EB,noInsp,[]) else if EU≠0 then (EU,noInsp,[]) else (0,IB,LU)):=hide (by simp only[applyT,hSU])
 have HSUB:=hide hSU
 obtain ⟨J,hJ⟩: ∃J,applyS x i cols ocols rows orows zs=J:=⟨_,rfl⟩
 rw[hJ]at HD⊢
 clear hSS hSB hSU hJ
 simp only[chkCells]at HSU HBU⊢
 have HN:=hide hn
 have HN2:=hide hn'
 have HQ:=hide hq
 have HW:=hide hw
 have HC:=hide hc
 have HO:=hide ho
 have HZ:=hide hz
 have HR:=hide hr
 have HOR:=hide hor
 have HI7:=hide hi7
 have HI8:=hide hi8
 have HI9:=hide hi9
 clear hn hn' hq hw hc ho hz hr hor hi7 hi8 hi9
 go_enter Tryz.func17,Tryz.ntmps17
 go_wp2_with fail
 obtain ⟨W901,hW901⟩: ∃W,W=w.alloc (.cells #[.string x.name,.string x.table,.int .i64 x.kind,.slice A n c,.string x.other,.slice A' n' c',.int .i64 x.low,.int .i64 x.high,.slice A'' n'' c'',.int .i64 x.ln,.int .i64 x.ld,.int .i64 x.mn,.int .i64 x.md,.int .i64 x.policy] 27):=⟨_,rfl⟩
 obtain ⟨g1,hg1⟩: ∃q,q=w.heap.size:=⟨_,rfl⟩
 have KC:Hid (Blk W901 g1 27 [.string x.name,.string x.table,.int .i64 x.kind,.slice A n c,.string x.other,.slice A' n' c',.int .i64 x.low,.int .i64 x.high,.slice A'' n'' c'',.int .i64 x.ln,.int .i64 x.ld,.int .i64 x.mn,.int .i64 x.md,.int .i64 x.policy]):=hide (by rw[hW901,hg1];exact Blk.made _ _ _)
 have SZg1:Hid (W901.heap.size=g1+1):=hide (by rw[hW901,hg1];exact World.size_alloc _ _)
 have LBg1:Hid (Below w.heap.size w W901):=hide (by rw[hW901];exact below_alloc)
 have HGg1:Hid (w.heap.size<=g1):=hide (by rw[hg1];exact Nat.le_refl _)
 rw[<-hW901,<-hg1]
 have HEg1:=hide hg1
 clear hW901 hg1
 have LHBg1:=hide LBg1.out
 obtain ⟨W902,hW902⟩: ∃W,W=W901.alloc (.cells #[.slice B7 m7 d7,.slice B8 m8 d8,.slice B9 m9 d9] 36):=⟨_,rfl⟩
 obtain ⟨g2,hg2⟩: ∃q,q=W901.heap.size:=⟨_,rfl⟩
 have KI:Hid (Blk W902 g2 36 [.slice B7 m7 d7,.slice B8 m8 d8,.slice B9 m9 d9]):=hide (by rw[hW902,hg2];exact Blk.made _ _ _)
 have SZg2:Hid (W902.heap.size=g2+1):=hide (by rw[hW902,hg2];exact World.size_alloc _ _)
 have LBg2:Hid (Below W901.heap.size W901 W902):=hide (by rw[hW902];exact below_alloc)
 have HGg2:Hid (w.heap.size<=g2):=hide (by rw[hg2];exact LHBg1.out.size)
 have NEg1_g2:Hid (¬g1=g2):=hide (by have h:=KC.out.lt;omega)
 have hqg2:g2=g1+1:=by rw[hg2];exact SZg1.out
 rw[<-hW902,<-hqg2]
 clear hqg2
 have HEg2:=hide hg2
 clear hW902 hg2
 have KC:=hide (KC.out.below LBg2.out)
 have LHBg2:=hide (below_trans LHBg1.out LBg2.out)
 obtain ⟨W903,hW903⟩: ∃W,W=W902.alloc (.cells #[.string rn,.slice A1 n1 c1,.slice Ak nk ck,.slice A3 n3 c3] 32):=⟨_,rfl⟩
 obtain ⟨g3,hg3⟩: ∃q,q=W902.heap.size:=⟨_,rfl⟩
 have KR:Hid (Blk W903 g3 32 [.string rn,.slice A1 n1 c1,.slice Ak nk ck,.slice A3 n3 c3]):=hide (by rw[hW903,hg3];exact Blk.made _ _ _)
 have SZg3:Hid (W903.heap.size=g3+1):=hide (by rw[hW903,hg3];exact World.size_alloc _ _)
 have LBg3:Hid (Below W902.heap.size W902 W903):=hide (by rw[hW903];exact below_alloc)
 have HGg3:Hid (w.heap.size<=g3):=hide (by rw[hg3];exact LHBg2.out.size)
 have NEg1_g3:Hid (¬g1=g3):=hide (by have h:=KC.out.lt;omega)
 have NEg2_g3:Hid (¬g2=g3):=hide (by have h:=KI.out.lt;omega)
 have hqg3:g3=g2+1:=by rw[hg3];exact SZg2.out
 rw[<-hW903,<-hqg3]
 clear hqg3
 have HEg3:=hide hg3
 clear hW903 hg3
 have KC:=hide (KC.out.below LBg3.out)
 have KI:=hide (KI.out.below LBg3.out)
 have LHBg3:=hide (below_trans LHBg2.out LBg3.out)
 obtain ⟨W904,hW904⟩: ∃W,W=W903.alloc (.cells #[.string on,.slice A2 n2 c2,.slice Al nl cl,.slice A4 n4 c4] 32):=⟨_,rfl⟩
 obtain ⟨g4,hg4⟩: ∃q,q=W903.heap.size:=⟨_,rfl⟩
 have KO:Hid (Blk W904 g4 32 [.string on,.slice A2 n2 c2,.slice Al nl cl,.slice A4 n4 c4]):=hide (by rw[hW904,hg4];exact Blk.made _ _ _)
 have SZg4:Hid (W904.heap.size=g4+1):=hide (by rw[hW904,hg4];exact World.size_alloc _ _)
 have LBg4:Hid (Below W903.heap.size W903 W904):=hide (by rw[hW904];exact below_alloc)
 have HGg4:Hid (w.heap.size<=g4):=hide (by rw[hg4];exact LHBg3.out.size)
 have NEg1_g4:Hid (¬g1=g4):=hide (by have h:=KC.out.lt;omega)
 have NEg2_g4:Hid (¬g2=g4):=hide (by have h:=KI.out.lt;omega)
 have NEg3_g4:Hid (¬g3=g4):=hide (by have h:=KR.out.lt;omega)
 have hqg4:g4=g3+1:=by rw[hg4];exact SZg3.out
 rw[<-hW904,<-hqg4]
 clear hqg4
 have HEg4:=hide hg4
 clear hW904 hg4
 have KC:=hide (KC.out.below LBg4.out)
 have KI:=hide (KI.out.below LBg4.out)
 have KR:=hide (KR.out.below LBg4.out)
 have LHBg4:=hide (below_trans LHBg3.out LBg4.out)
 obtain ⟨W905,hW905⟩: ∃W,W=W904.alloc (.cells #[.slice none 0 0,.slice none 0 0,.slice none 0 0] 36):=⟨_,rfl⟩
 obtain ⟨g5,hg5⟩: ∃q,q=W904.heap.size:=⟨_,rfl⟩
 have KZ:Hid (Blk W905 g5 36 [.slice none 0 0,.slice none 0 0,.slice none 0 0]):=hide (by rw[hW905,hg5];exact Blk.made _ _ _)
 have SZg5:Hid (W905.heap.size=g5+1):=hide (by rw[hW905,hg5];exact World.size_alloc _ _)
 have LBg5:Hid (Below W904.heap.size W904 W905):=hide (by rw[hW905];exact below_alloc)
 have HGg5:Hid (w.heap.size<=g5):=hide (by rw[hg5];exact LHBg4.out.size)
 have NEg1_g5:Hid (¬g1=g5):=hide (by have h:=KC.out.lt;omega)
 have NEg2_g5:Hid (¬g2=g5):=hide (by have h:=KI.out.lt;omega)
 have NEg3_g5:Hid (¬g3=g5):=hide (by have h:=KR.out.lt;omega)
 have NEg4_g5:Hid (¬g4=g5):=hide (by have h:=KO.out.lt;omega)
 have hqg5:g5=g4+1:=by rw[hg5];exact SZg4.out
 rw[<-hW905,<-hqg5]
 clear hqg5
 have HEg5:=hide hg5
 clear hW905 hg5
 have KC:=hide (KC.out.below LBg5.out)
 have KI:=hide (KI.out.below LBg5.out)
 have KR:=hide (KR.out.below LBg5.out)
 have KO:=hide (KO.out.below LBg5.out)
 have LHBg5:=hide (below_trans LHBg4.out LBg5.out)
 obtain ⟨LTKC,g0,g1,g2,g3,g4,g5,g6,g7,g8,g9,g10,g11,g12,g13⟩:=KC.out.ats14
 obtain ⟨LTKI,i0,i1,i2⟩:=KI.out.ats3
 obtain ⟨LTKR,r0,r1,r2,r3⟩:=KR.out.ats4
 obtain ⟨LTKO,s0,s1,s2,s3⟩:=KO.out.ats4
 go_wp2_with fail
 refine (HSU.out _ (HI7.out.below LHBg5.out) (HI8.out.below LHBg5.out) (HR.out.below LHBg5.out) (HOR.out.below LHBg5.out)).mono ?_
 rintro e w6 ⟨hsu,hb6⟩
 clear LTKC g0 g1 g2 g3 g4 g5 g6 g7 g8 g9 g10 g11 g12 g13 LTKI i0 i1 i2 LTKR r0 r1 r2 r3 LTKO s0 s1 s2 s3
 have KC:=hide (KC.out.below hb6)
 have KI:=hide (KI.out.below hb6)
 have KR:=hide (KR.out.below hb6)
 have KO:=hide (KO.out.below hb6)
 have KZ:=hide (KZ.out.below hb6)
 have LHC6:=hide (below_trans LHBg5.out hb6)
 clear hb6
 by_cases h0:ES=0
 rotate_left
 ·have HJ:Hid (J=(ES,noInsp,[])):=hide (by rw[HD.out,if_pos h0])
  obtain ⟨s,t,a1,p1,q1,a2,p2,q2,a3,p3,q3,b1,p4,q4,b2,p5,q5,b3,p6,q6,rfl⟩:=hsu.2 h0
  have q0:(ES != 0)=true:=by simpa using h0
  obtain ⟨LTKR,r0,r1,r2,r3⟩:=KR.out.ats4
  have fr0:=KR.out.fz 0
  have fr1:=KR.out.fz 1
  have fr2:=KR.out.fz 2
  have fr3:=KR.out.fz 3
  obtain ⟨LTKO,s0,s1,s2,s3⟩:=KO.out.ats4
  have fs0:=KO.out.fz 0
  have fs1:=KO.out.fz 1
  have fs2:=KO.out.fz 2
  have fs3:=KO.out.fz 3
  have hne:=NEg3_g4.out
  go_upto_region 2 with (fail)
  obtain ⟨W907,hW907⟩: ∃W,W=((((w6.setCell ⟨g3,0,none⟩ (.string s)).setCell ⟨g3,1,none⟩ (.slice a1 p1 q1)).setCell ⟨g3,2,none⟩ (.slice a2 p2 q2)).setCell ⟨g3,3,none⟩ (.slice a3 p3 q3)):=⟨_,rfl⟩
  clear LTKR r0 r1 r2 r3 fr0 fr1 fr2 fr3 LTKO s0 s1 s2 s3 fs0 fs1 fs2 fs3
  have KC:=hide ((((KC.out.far NEg1_g3.out 0 (.string s)).far NEg1_g3.out 1 (.slice a1 p1 q1)).far NEg1_g3.out 2 (.slice a2 p2 q2)).far NEg1_g3.out 3 (.slice a3 p3 q3))
  rw[<-hW907]at KC
  have KI:=hide ((((KI.out.far NEg2_g3.out 0 (.string s)).far NEg2_g3.out 1 (.slice a1 p1 q1)).far NEg2_g3.out 2 (.slice a2 p2 q2)).far NEg2_g3.out 3 (.slice a3 p3 q3))
  rw[<-hW907]at KI
  have KO:=hide ((((KO.out.far (λh=>NEg3_g4.out h.symm) 0 (.string s)).far (λh=>NEg3_g4.out h.symm) 1 (.slice a1 p1 q1)).far (λh=>NEg3_g4.out h.symm) 2 (.slice a2 p2 q2)).far (λh=>NEg3_g4.out h.symm) 3 (.slice a3 p3 q3))
  rw[<-hW907]at KO
  have KZ:=hide ((((KZ.out.far (λh=>NEg3_g5.out h.symm) 0 (.string s)).far (λh=>NEg3_g5.out h.symm) 1 (.slice a1 p1 q1)).far (λh=>NEg3_g5.out h.symm) 2 (.slice a2 p2 q2)).far (λh=>NEg3_g5.out h.symm) 3 (.slice a3 p3 q3))
  rw[<-hW907]at KZ
  have KR:=hide (KR.out.set4 rfl (a0:=.string s) (a1:=.slice a1 p1 q1) (a2:=.slice a2 p2 q2) (a3:=.slice a3 p3 q3))
  rw[<-hW907]at KR
  have LHS7:=hide (below_set (below_set (below_set (below_set LHC6.out HGg3.out 0 (.string s)) HGg3.out 1 (.slice a1 p1 q1)) HGg3.out 2 (.slice a2 p2 q2)) HGg3.out 3 (.slice a3 p3 q3))
  rw[<-hW907]at LHS7
  rw[<-hW907]
  clear hW907
  obtain ⟨W908,hW908⟩: ∃W,W=((((W907.setCell ⟨g4,0,none⟩ (.string t)).setCell ⟨g4,1,none⟩ (.slice b1 p4 q4)).setCell ⟨g4,2,none⟩ (.slice b2 p5 q5)).setCell ⟨g4,3,none⟩ (.slice b3 p6 q6)):=⟨_,rfl⟩
  have KC:=hide ((((KC.out.far NEg1_g4.out 0 (.string t)).far NEg1_g4.out 1 (.slice b1 p4 q4)).far NEg1_g4.out 2 (.slice b2 p5 q5)).far NEg1_g4.out 3 (.slice b3 p6 q6))
  rw[<-hW908]at KC
  have KI:=hide ((((KI.out.far NEg2_g4.out 0 (.string t)).far NEg2_g4.out 1 (.slice b1 p4 q4)).far NEg2_g4.out 2 (.slice b2 p5 q5)).far NEg2_g4.out 3 (.slice b3 p6 q6))
  rw[<-hW908]at KI
  have KR:=hide ((((KR.out.far NEg3_g4.out 0 (.string t)).far NEg3_g4.out 1 (.slice b1 p4 q4)).far NEg3_g4.out 2 (.slice b2 p5 q5)).far NEg3_g4.out 3 (.slice b3 p6 q6))
  rw[<-hW908]at KR
  have KZ:=hide ((((KZ.out.far (λh=>NEg4_g5.out h.symm) 0 (.string t)).far (λh=>NEg4_g5.out h.symm) 1 (.slice b1 p4 q4)).far (λh=>NEg4_g5.out h.symm) 2 (.slice b2 p5 q5)).far (λh=>NEg4_g5.out h.symm) 3 (.slice b3 p6 q6))
  rw[<-hW908]at KZ
  have KO:=hide (KO.out.set4 rfl (a0:=.string t) (a1:=.slice b1 p4 q4) (a2:=.slice b2 p5 q5) (a3:=.slice b3 p6 q6))
  rw[<-hW908]at KO
  have LHS8:=hide (below_set (below_set (below_set (below_set LHS7.out HGg4.out 0 (.string t)) HGg4.out 1 (.slice b1 p4 q4)) HGg4.out 2 (.slice b2 p5 q5)) HGg4.out 3 (.slice b3 p6 q6))
  rw[<-hW908]at LHS8
  rw[<-hW908]
  clear hW908
  obtain ⟨LTKZ,z0,z1,z2⟩:=KZ.out.ats3
  have fz0:=KZ.out.fz 0
  have fz1:=KZ.out.fz 1
  have fz2:=KZ.out.fz 2
  go_wp2
  all_goals (try (exfalso;go_light;simp_all;done))
  obtain ⟨q1,q3,q4⟩:=insp_fin KZ.out rfl HGg5.out LHS8.out (.slice none 0 0) (.slice none 0 0) (.slice none 0 0) rfl
  exact bodyPost_ret (v:=.tuple #[.agg #[.slice none 0 0,.slice none 0 0,.slice none 0 0],.slice none 0 0,.int .i64 (ES)]) (results_ctt (cs:=[.slice none 0 0,.slice none 0 0,.slice none 0 0]) rfl _ _ g5 _ _ _ rfl rfl rfl q1 Tryz.underlying36 rfl (by kernel_rfl)) rfl ⟨⟨_,_,_,_,by rw[HJ.out],by rw[HJ.out];exact OL.nil q3.size,by rw[HJ.out];exact OL.nil q3.size,by rw[HJ.out];exact OL.nil q3.size,by rw[HJ.out];exact OL.nil q3.size⟩,q3⟩
 obtain ⟨hs1,_⟩:=hsu
 subst h0
 obtain ⟨v3,v4,rfl,ho3,ho4⟩:=hs1 rfl
 clear hs1
 obtain ⟨B3,d3,rfl⟩:=ho3.form
 obtain ⟨m3,hm3⟩: ∃m,RS.length=m:=⟨_,rfl⟩
 obtain ⟨E3,e3,rfl⟩:=ho4.form
 obtain ⟨l3,hl3⟩: ∃m,OS.length=m:=⟨_,rfl⟩
 rw[hm3]at ho3⊢
 rw[hl3]at ho4⊢
 have HM3:=hide hm3
 have HL3:=hide hl3
 clear hm3 hl3
 have HO3:=hide ho3
 clear ho3
 have HO4:=hide ho4
 clear ho4
 obtain ⟨LTKR,r0,r1,r2,r3⟩:=KR.out.ats4
 have fr0:=KR.out.fz 0
 have fr1:=KR.out.fz 1
 have fr2:=KR.out.fz 2
 have fr3:=KR.out.fz 3
 obtain ⟨LTKO,s0,s1,s2,s3⟩:=KO.out.ats4
 have fs0:=KO.out.fz 0
 have fs1:=KO.out.fz 1
 have fs2:=KO.out.fz 2
 have fs3:=KO.out.fz 3
 have hne:=NEg3_g4.out
 go_upto_region 2 with (fail)
 obtain ⟨W909,hW909⟩: ∃W,W=((((w6.setCell ⟨g3,0,none⟩ (.string rn)).setCell ⟨g3,1,none⟩ (.slice A1 n1 c1)).setCell ⟨g3,2,none⟩ (.slice Ak nk ck)).setCell ⟨g3,3,none⟩ (.slice B3 m3 d3)):=⟨_,rfl⟩
 clear LTKR r0 r1 r2 r3 fr0 fr1 fr2 fr3 LTKO s0 s1 s2 s3 fs0 fs1 fs2 fs3
 have HO3:=hide ((((HO3.out.off KR.out.ty (.inr λ_ h=>h) (by decide) (by decide) 0 (.string rn)).off (KR.out.ty.set g3 0 (.string rn)) (.inr λ_ h=>h) (by decide) (by decide) 1 (.slice A1 n1 c1)).off ((KR.out.ty.set g3 0 (.string rn)).set g3 1 (.slice A1 n1 c1)) (.inr λ_ h=>h) (by decide) (by decide) 2 (.slice Ak nk ck)).off (((KR.out.ty.set g3 0 (.string rn)).set g3 1 (.slice A1 n1 c1)).set g3 2 (.slice Ak nk ck)) (.inr λ_ h=>h) (by decide) (by decide) 3 (.slice B3 m3 d3))
 rw[<-hW909]at HO3
 have HO4:=hide ((((HO4.out.off KR.out.ty (.inr λ_ h=>h) (by decide) (by decide) 0 (.string rn)).off (KR.out.ty.set g3 0 (.string rn)) (.inr λ_ h=>h) (by decide) (by decide) 1 (.slice A1 n1 c1)).off ((KR.out.ty.set g3 0 (.string rn)).set g3 1 (.slice A1 n1 c1)) (.inr λ_ h=>h) (by decide) (by decide) 2 (.slice Ak nk ck)).off (((KR.out.ty.set g3 0 (.string rn)).set g3 1 (.slice A1 n1 c1)).set g3 2 (.slice Ak nk ck)) (.inr λ_ h=>h) (by decide) (by decide) 3 (.slice B3 m3 d3))
 rw[<-hW909]at HO4
 have KC:=hide ((((KC.out.far NEg1_g3.out 0 (.string rn)).far NEg1_g3.out 1 (.slice A1 n1 c1)).far NEg1_g3.out 2 (.slice Ak nk ck)).far NEg1_g3.out 3 (.slice B3 m3 d3))
 rw[<-hW909]at KC
 have KI:=hide ((((KI.out.far NEg2_g3.out 0 (.string rn)).far NEg2_g3.out 1 (.slice A1 n1 c1)).far NEg2_g3.out 2 (.slice Ak nk ck)).far NEg2_g3.out 3 (.slice B3 m3 d3))
 rw[<-hW909]at KI
 have KO:=hide ((((KO.out.far (λh=>NEg3_g4.out h.symm) 0 (.string rn)).far (λh=>NEg3_g4.out h.symm) 1 (.slice A1 n1 c1)).far (λh=>NEg3_g4.out h.symm) 2 (.slice Ak nk ck)).far (λh=>NEg3_g4.out h.symm) 3 (.slice B3 m3 d3))
 rw[<-hW909]at KO
 have KZ:=hide ((((KZ.out.far (λh=>NEg3_g5.out h.symm) 0 (.string rn)).far (λh=>NEg3_g5.out h.symm) 1 (.slice A1 n1 c1)).far (λh=>NEg3_g5.out h.symm) 2 (.slice Ak nk ck)).far (λh=>NEg3_g5.out h.symm) 3 (.slice B3 m3 d3))
 rw[<-hW909]at KZ
 have KR:=hide (KR.out.set4 rfl (a0:=.string rn) (a1:=.slice A1 n1 c1) (a2:=.slice Ak nk ck) (a3:=.slice B3 m3 d3))
 rw[<-hW909]at KR
 have LHS9:=hide (below_set (below_set (below_set (below_set LHC6.out HGg3.out 0 (.string rn)) HGg3.out 1 (.slice A1 n1 c1)) HGg3.out 2 (.slice Ak nk ck)) HGg3.out 3 (.slice B3 m3 d3))
 rw[<-hW909]at LHS9
 rw[<-hW909]
 clear hW909
 obtain ⟨W910,hW910⟩: ∃W,W=((((W909.setCell ⟨g4,0,none⟩ (.string on)).setCell ⟨g4,1,none⟩ (.slice A2 n2 c2)).setCell ⟨g4,2,none⟩ (.slice Al nl cl)).setCell ⟨g4,3,none⟩ (.slice E3 l3 e3)):=⟨_,rfl⟩
 have HO3:=hide ((((HO3.out.off KO.out.ty (.inr λ_ h=>h) (by decide) (by decide) 0 (.string on)).off (KO.out.ty.set g4 0 (.string on)) (.inr λ_ h=>h) (by decide) (by decide) 1 (.slice A2 n2 c2)).off ((KO.out.ty.set g4 0 (.string on)).set g4 1 (.slice A2 n2 c2)) (.inr λ_ h=>h) (by decide) (by decide) 2 (.slice Al nl cl)).off (((KO.out.ty.set g4 0 (.string on)).set g4 1 (.slice A2 n2 c2)).set g4 2 (.slice Al nl cl)) (.inr λ_ h=>h) (by decide) (by decide) 3 (.slice E3 l3 e3))
 rw[<-hW910]at HO3
 have HO4:=hide ((((HO4.out.off KO.out.ty (.inr λ_ h=>h) (by decide) (by decide) 0 (.string on)).off (KO.out.ty.set g4 0 (.string on)) (.inr λ_ h=>h) (by decide) (by decide) 1 (.slice A2 n2 c2)).off ((KO.out.ty.set g4 0 (.string on)).set g4 1 (.slice A2 n2 c2)) (.inr λ_ h=>h) (by decide) (by decide) 2 (.slice Al nl cl)).off (((KO.out.ty.set g4 0 (.string on)).set g4 1 (.slice A2 n2 c2)).set g4 2 (.slice Al nl cl)) (.inr λ_ h=>h) (by decide) (by decide) 3 (.slice E3 l3 e3))
 rw[<-hW910]at HO4
 have KC:=hide ((((KC.out.far NEg1_g4.out 0 (.string on)).far NEg1_g4.out 1 (.slice A2 n2 c2)).far NEg1_g4.out 2 (.slice Al nl cl)).far NEg1_g4.out 3 (.slice E3 l3 e3))
 rw[<-hW910]at KC
 have KI:=hide ((((KI.out.far NEg2_g4.out 0 (.string on)).far NEg2_g4.out 1 (.slice A2 n2 c2)).far NEg2_g4.out 2 (.slice Al nl cl)).far NEg2_g4.out 3 (.slice E3 l3 e3))
 rw[<-hW910]at KI
 have KR:=hide ((((KR.out.far NEg3_g4.out 0 (.string on)).far NEg3_g4.out 1 (.slice A2 n2 c2)).far NEg3_g4.out 2 (.slice Al nl cl)).far NEg3_g4.out 3 (.slice E3 l3 e3))
 rw[<-hW910]at KR
 have KZ:=hide ((((KZ.out.far (λh=>NEg4_g5.out h.symm) 0 (.string on)).far (λh=>NEg4_g5.out h.symm) 1 (.slice A2 n2 c2)).far (λh=>NEg4_g5.out h.symm) 2 (.slice Al nl cl)).far (λh=>NEg4_g5.out h.symm) 3 (.slice E3 l3 e3))
 rw[<-hW910]at KZ
 have KO:=hide (KO.out.set4 rfl (a0:=.string on) (a1:=.slice A2 n2 c2) (a2:=.slice Al nl cl) (a3:=.slice E3 l3 e3))
 rw[<-hW910]at KO
 have LHS10:=hide (below_set (below_set (below_set (below_set LHS9.out HGg4.out 0 (.string on)) HGg4.out 1 (.slice A2 n2 c2)) HGg4.out 2 (.slice Al nl cl)) HGg4.out 3 (.slice E3 l3 e3))
 rw[<-hW910]at LHS10
 rw[<-hW910]
 clear hW910
 obtain ⟨LTKC,g0,g1,g2,g3,g4,g5,g6,g7,g8,g9,g10,g11,g12,g13⟩:=KC.out.ats14
 obtain ⟨LTKR,r0,r1,r2,r3⟩:=KR.out.ats4
 obtain ⟨LTKO,s0,s1,s2,s3⟩:=KO.out.ats4
 have hsb:=LHS10.out.size
 go_wp2_with fail
 refine (HBU.out _ (HN.out.below LHS10.out) (HN2.out.below LHS10.out) (HQ.out.below LHS10.out) (HW.out.below LHS10.out) (HC.out.below LHS10.out) _ _ _ (ol_in HO3.out HM3.out) (HO.out.below LHS10.out) _ _ _ (ol_in HO4.out HL3.out) (HZ.out.below LHS10.out)).mono ?_
 rintro e w11 ⟨⟨v7,v8,v9,rfl,ho7,ho8,ho9⟩,hb11⟩
 clear LTKC g0 g1 g2 g3 g4 g5 g6 g7 g8 g9 g10 g11 g12 g13 LTKR r0 r1 r2 r3 LTKO s0 s1 s2 s3
 have KC:=hide (KC.out.below hb11)
 have KI:=hide (KI.out.below hb11)
 have KR:=hide (KR.out.below hb11)
 have KO:=hide (KO.out.below hb11)
 have KZ:=hide (KZ.out.below hb11)
 have LHC11:=hide (below_trans LHS10.out hb11)
 clear hb11
 replace ho7:=ho7.rebase hsb
 replace ho8:=ho8.rebase hsb
 replace ho9:=ho9.rebase hsb
 clear hsb
 obtain ⟨A7,c7,rfl⟩:=ho7.form
 obtain ⟨n7,hn7⟩: ∃m,IB.rows.length=m:=⟨_,rfl⟩
 rw[hn7]at ho7⊢
 obtain ⟨A8,c8,rfl⟩:=ho8.form
 obtain ⟨n8,hn8⟩: ∃m,IB.other.length=m:=⟨_,rfl⟩
 rw[hn8]at ho8⊢
 obtain ⟨A9,c9,rfl⟩:=ho9.form
 obtain ⟨n9,hn9⟩: ∃m,IB.viol.length=m:=⟨_,rfl⟩
 rw[hn9]at ho9⊢
 have HL9:=hide hn9
 clear hn7 hn8 hn9
 have HO7:=hide ho7
 clear ho7
 have HO8:=hide ho8
 clear ho8
 have HO9:=hide ho9
 clear ho9
 go_upto_region 5 with (fail)
 obtain ⟨W912,hW912⟩: ∃W,W=w11.alloc (.cells #[.slice A7 n7 c7,.slice A8 n8 c8,.slice A9 n9 c9] 36):=⟨_,rfl⟩
 obtain ⟨g7,hg7⟩: ∃q,q=w11.heap.size:=⟨_,rfl⟩
 have KJ:Hid (Blk W912 g7 36 [.slice A7 n7 c7,.slice A8 n8 c8,.slice A9 n9 c9]):=hide (by rw[hW912,hg7];exact Blk.made _ _ _)
 have SZg7:Hid (W912.heap.size=g7+1):=hide (by rw[hW912,hg7];exact World.size_alloc _ _)
 have LBg7:Hid (Below w11.heap.size w11 W912):=hide (by rw[hW912];exact below_alloc)
 have HGg7:Hid (w.heap.size<=g7):=hide (by rw[hg7];exact LHC11.out.size)
 have NEg1_g7:Hid (¬g1=g7):=hide (by have h:=KC.out.lt;omega)
 have NEg2_g7:Hid (¬g2=g7):=hide (by have h:=KI.out.lt;omega)
 have NEg3_g7:Hid (¬g3=g7):=hide (by have h:=KR.out.lt;omega)
 have NEg4_g7:Hid (¬g4=g7):=hide (by have h:=KO.out.lt;omega)
 have NEg5_g7:Hid (¬g5=g7):=hide (by have h:=KZ.out.lt;omega)
 rw[<-hW912,<-hg7]
 have HEg7:=hide hg7
 clear hW912 hg7
 have KI:=hide (KI.out.below LBg7.out)
 have KZ:=hide (KZ.out.below LBg7.out)
 have HO7:=hide (HO7.out.below LBg7.out)
 have HO8:=hide (HO8.out.below LBg7.out)
 have HO9:=hide (HO9.out.below LBg7.out)
 have LHBg7:=hide (below_trans LHC11.out LBg7.out)
 by_cases h1:EB=0
 rotate_left
 ·have HJ:Hid (J=(EB,noInsp,[])):=hide (by rw[HD.out,if_neg (by simp),HT.out,if_pos h1])
  have q0:(EB != 0)=true:=by simpa using h1
  obtain ⟨LTKZ,z0,z1,z2⟩:=KZ.out.ats3
  have fz0:=KZ.out.fz 0
  have fz1:=KZ.out.fz 1
  have fz2:=KZ.out.fz 2
  go_wp2
  all_goals (try (exfalso;go_light;simp_all;done))
  obtain ⟨q1,q3,q4⟩:=insp_fin KZ.out rfl HGg5.out LHBg7.out (.slice none 0 0) (.slice none 0 0) (.slice none 0 0) rfl
  exact bodyPost_ret (v:=.tuple #[.agg #[.slice none 0 0,.slice none 0 0,.slice none 0 0],.slice none 0 0,.int .i64 (EB)]) (results_ctt (cs:=[.slice none 0 0,.slice none 0 0,.slice none 0 0]) rfl _ _ g5 _ _ _ rfl rfl rfl q1 Tryz.underlying36 rfl (by kernel_rfl)) rfl ⟨⟨_,_,_,_,by rw[HJ.out],by rw[HJ.out];exact OL.nil q3.size,by rw[HJ.out];exact OL.nil q3.size,by rw[HJ.out];exact OL.nil q3.size,by rw[HJ.out];exact OL.nil q3.size⟩,q3⟩
 subst h1
 have j2:=KJ.out.at 2 rfl
 have LTKJ:=KJ.out.lt
 have i2:=KI.out.at 2 rfl
 have LTKI:=KI.out.lt
 have hsc:=LHBg7.out.size
 go_wp2_with fail
 refine (sub_bag _ _ _ _ IB.viol (ol_in HO9.out HL9.out) _ _ _ i.viol (HI9.out.below LHBg7.out)).mono ?_
 rintro e w13 ⟨⟨v0,rfl,ho0⟩,hb13⟩
 clear j2 LTKJ i2 LTKI
 have KZ:=hide (KZ.out.below hb13)
 have KJ:=hide (KJ.out.below hb13)
 have HO7:=hide (HO7.out.below hb13)
 have HO8:=hide (HO8.out.below hb13)
 have HO9:=hide (HO9.out.below hb13)
 have LHC13:=hide (below_trans LHBg7.out hb13)
 clear hb13
 replace ho0:=ho0.rebase hsc
 rw[HSUB.out]at ho0⊢
 clear hsc
 obtain ⟨A0,c0,rfl⟩:=ho0.form
 obtain ⟨n0,hn0⟩: ∃m,LU.length=m:=⟨_,rfl⟩
 rw[hn0]at ho0⊢
 clear hn0
 have HO0:=hide ho0
 clear ho0
 by_cases h2:EU=0
 rotate_left
 ·have HJ:Hid (J=(EU,noInsp,[])):=hide (by rw[HD.out,if_neg (by simp),HT.out,if_neg (by simp),if_pos h2])
  have q0:(EU != 0)=true:=by simpa using h2
  obtain ⟨LTKZ,z0,z1,z2⟩:=KZ.out.ats3
  have fz0:=KZ.out.fz 0
  have fz1:=KZ.out.fz 1
  have fz2:=KZ.out.fz 2
  go_wp2
  all_goals (try (exfalso;go_light;simp_all;done))
  obtain ⟨q1,q3,q4⟩:=insp_fin KZ.out rfl HGg5.out LHC13.out (.slice none 0 0) (.slice none 0 0) (.slice none 0 0) rfl
  exact bodyPost_ret (v:=.tuple #[.agg #[.slice none 0 0,.slice none 0 0,.slice none 0 0],.slice none 0 0,.int .i64 (EU)]) (results_ctt (cs:=[.slice none 0 0,.slice none 0 0,.slice none 0 0]) rfl _ _ g5 _ _ _ rfl rfl rfl q1 Tryz.underlying36 rfl (by kernel_rfl)) rfl ⟨⟨_,_,_,_,by rw[HJ.out],by rw[HJ.out];exact OL.nil q3.size,by rw[HJ.out];exact OL.nil q3.size,by rw[HJ.out];exact OL.nil q3.size,by rw[HJ.out];exact OL.nil q3.size⟩,q3⟩
 subst h2
 have HJ:Hid (J=(0,IB,LU)):=hide (by rw[HD.out,if_neg (by simp),HT.out,if_neg (by simp),if_neg (by simp)])
 obtain ⟨LTKZ,z0,z1,z2⟩:=KZ.out.ats3
 have fz0:=KZ.out.fz 0
 have fz1:=KZ.out.fz 1
 have fz2:=KZ.out.fz 2
 obtain ⟨LTKJ,j0,j1,j2⟩:=KJ.out.ats3
 have hne:=NEg5_g7.out
 go_wp2
 obtain rfl:=HJ.out
 obtain ⟨q1,q3,q4⟩:=insp_fin KZ.out rfl HGg5.out LHC13.out (.slice A7 n7 c7) (.slice A8 n8 c8) (.slice A9 n9 c9) rfl
 exact bodyPost_ret (v:=.tuple #[.agg #[.slice A7 n7 c7,.slice A8 n8 c8,.slice A9 n9 c9],.slice A0 n0 c0,.int .i64 0]) (results_ctt (cs:=[.slice A7 n7 c7,.slice A8 n8 c8,.slice A9 n9 c9]) rfl _ _ g5 _ _ _ rfl rfl rfl q1 Tryz.underlying36 rfl (by kernel_rfl)) rfl ⟨⟨_,_,_,_,rfl,q4 HO7.out,q4 HO8.out,q4 HO9.out,q4 HO0.out⟩,q3⟩
theorem text29_any (w:World)(A:Option Addr)(n c:Nat)(cols:List Col)(hx:In w A n c cols)(A2:Option Addr)(n2 c2:Nat)(names:List ByteArray)(hy:In w A2 n2 c2 names)(A3:Option Addr)(n3 c3:Nat)(row:List Val)(hz:In w A3 n3 c3 row)(hn:n<=1048576)(hn2:n2<=4096):
  Calls Tryz.prog 55 #[.slice A n c,.slice A2 n2 c2,.slice A3 n3 c3] w
   λe w'=>e=.returned (.string (textS (pickN cols names row)))/\Below w.heap.size w w':=by
 have HL:=hide (inds_len cols names)
 have HP:=hide (show pickN cols names row=pickV row (indsS cols names).2 from rfl)
 have HLY:=hide hy.len
 have hII:=λW hx hy=>indices_any W A n c cols hx A2 n2 c2 names hy (by omega) hn
 obtain ⟨ke,hke⟩: ∃k,indsS cols names=k:=⟨_,rfl⟩
 rw[hke]at HL HP hII
 obtain ⟨R,hR⟩: ∃R,pickN cols names row=R:=⟨_,rfl⟩
 rw[hR]at HP
 rw[hR]
 clear hke hR
 have HT:=hide (show textS R=⟨(encS R).2.toArray⟩ from rfl)
 generalize textS R=TX at*
 obtain ⟨ke,ks⟩:=ke
 have HII:=hide hII
 clear hII
 have HX:=hide hx
 have HY:=hide hy
 have HZ:=hide hz
 clear hx hy hz
 go_enter Tryz.func55,Tryz.ntmps55
 go_wp2_with fail
 refine (HII.out _ (HX.out.below (Below.refl _ _)) (HY.out.below (Below.refl _ _))).mono ?_
 rintro e w1 ⟨⟨v,rfl,ho⟩,hb1⟩
 have LHC1:=hide hb1
 clear hb1
 obtain ⟨A4,c4,rfl⟩:=ho.form
 have hkl:ks.length<=n2:=by rw[<-HLY.out];exact HL.out
 obtain ⟨m,hm⟩: ∃m,ks.length=m:=⟨_,rfl⟩
 rw[hm]at ho hkl⊢
 have HM:=hide hm
 clear hm
 have HK:=hide ho
 clear ho
 go_wp2_with fail
 refine (pick_any _ A3 n3 c3 row (HZ.out.below LHC1.out) A4 m c4 ks (ol_in HK.out HM.out) (by omega)).mono ?_
 rintro e w2 ⟨⟨A5,c5,rfl,ho2⟩,hb2⟩
 have LHC2:=hide (below_trans LHC1.out hb2)
 clear hb2
 have HI:=hide (ol_in ho2 (by rw[pickV_len,HM.out]))
 rw[<-HP.out]at HI
 clear ho2
 go_wp2_with fail
 refine (encode_any _ A5 m c5 R (by exact HI.out)).mono ?_
 rintro e w9 ⟨⟨v,rfl,ho9⟩,hb9⟩
 obtain ⟨A1,c1,rfl⟩:=ho9.form
 have HCV:=conv_own ho9 rfl
 rw[<-HT.out]at HCV
 have HB:=hide (below_trans LHC2.out hb9)
 clear ho9 hb9 HT
 go_wp2
 go_ret
 exact ⟨rfl,HB.out⟩
def hasT (cols:List Col)(names:List ByteArray)(rows:List Ent)(s:ByteArray):Bool:=rows.any λx=>decide (textS (pickN cols names x.row)=s)
theorem hasT_snoc (cols:List Col)(names:List ByteArray)(l:List Ent)(x:Ent)(s:ByteArray):hasT cols names (l++[x]) s=(hasT cols names l s || decide (textS (pickN cols names x.row)=s)):=by
 rw[hasT,hasT,List.any_append];simp
end Go.Proofs.YtggejcekmehocaaGreatDoor
