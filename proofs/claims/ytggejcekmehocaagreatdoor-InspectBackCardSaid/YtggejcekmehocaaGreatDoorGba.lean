/-
  check.violated: the function that reports whether a row violates a row check: unique checks, and checks of no row. (Printed by gen_viol.py.) check.violated: the function that reports whether a row violates a row check. (Printed by gen_viol.py.)
-/
import Derived.Laws.EntriesVeiled
import Derived.Test.YtggejcekmehocaaGreatDoorChkA
import Derived.Test.YtggejcekmehocaaGreatDoorCls
import Derived.Test.YtggejcekmehocaaGreatDoorGar
namespace Go.Proofs.YtggejcekmehocaaGreatDoor
set_option maxHeartbeats 4000000
set_option maxRecDepth 100000
open Go.RowKit Go.Maps
set_option linter.unusedSimpArgs false
set_option linter.unusedVariables false
theorem cnt_grp {cols:List Col}{names:List ByteArray}{rows:List Ent}{v:List Val}(hc:colsErr cols=0)(hi:(indsS cols names).1=0)(hr: ∀x∈rows,rowErr cols x.row=0)(hl:v.length<=12)(hv: ∀u∈v,valid u=true):
  cntT cols names rows (textS v)=totC (grp cols names rows v):=by
 rw[cntT,grp]
 congr 1
 refine List.filter_congr λx hx=>?_
 obtain ⟨_,h2,h3⟩:=pickN_fit hc hi (hr x hx)
 have h:=text_inj h2 h3 hl hv
 cases h4:sameV (pickN cols names x.row) v
 ·have h5:¬pickN cols names x.row=v:=λe=>by rw[sameV_iff.2 e]at h4;cases h4
  simpa using λe=>h5 (h.1 e)
 ·simpa using h.2 (sameV_iff.1 h4)
def IsBad (w:World)(fv:Value)(rc:List Col)(f:List Val->Bool):Prop:=
 ∃(k:Nat) (caps:List Value),fv=.func (.func k) #[] caps.toArray/\(∀args W,(callFunc k args).run Tryz.prog W=.ok (.enter k args) W)/\ ∀W,Below w.heap.size w W-> ∀A n c row,In W A n c row->rowErr rc row=0->
  Calls Tryz.prog k (.slice A n c :: caps).toArray W λe w'=>e=.returned (.bool (f row))/\Below W.heap.size W w'
theorem IsBad.below {w w1:World}{fv:Value}{rc:List Col}{f:List Val->Bool}(h:IsBad w fv rc f)(hb:Below w.heap.size w w1):IsBad w1 fv rc f:=by
 obtain ⟨k,caps,h1,h0,h2⟩:=h
 exact ⟨k,caps,h1,h0,λW hW=>h2 W (below_trans hb hW)⟩
theorem viol_kind {x:Chk}{rc oc:List Col}{rr orr:List Ent}{zs:List Zone}{row:List Val}:
  (x.kind=0->violB x rc oc rr orr zs row=decide (1<totC (grp rc x.cols rr (pickN rc x.cols row))))/\(x.kind=1->violB x rc oc rr orr zs row=nullIn (pickN rc x.cols row))/\
  (x.kind=2->violB x rc oc rr orr zs row=rangeB x ((pickN rc x.cols row).getD 0 zeroV))/\(x.kind=3->violB x rc oc rr orr zs row=(!nullIn (pickN rc x.cols row)&&(grp oc x.ocols orr (pickN rc x.cols row)).isEmpty))/\
  (x.kind=4->violB x rc oc rr orr zs row=!holdsB x.cond rc row zs)/\(¬x.kind=0->¬x.kind=1->¬x.kind=2->¬x.kind=3->¬x.kind=4->violB x rc oc rr orr zs row=false):=by
 refine ⟨?_,?_,?_,?_,?_,?_⟩
 ·intro h;simp[violB,h]
 ·intro h;simp[violB,h]
 ·intro h;simp[violB,h]
 ·intro h;simp[violB,h]
 ·intro h;simp[violB,h]
 ·intro h0 h1 h2 h3 h4;simp[violB,h0,h1,h2,h3,h4]
theorem violated_p (w:World)(x:Chk)(A:Option Addr)(n c:Nat)(hn:In w A n c x.cols)(A':Option Addr)(n' c':Nat)(hn':In w A' n' c' x.ocols)(A'':Option Addr)(n'' c'':Nat)(hq:In w A'' n'' c'' x.cond)(hw:Words w)(rn:ByteArray)(A1:Option Addr)(n1 c1:Nat)(cols:List Col)(hc:In w A1 n1 c1 cols)(Ak:Option Addr)(nk ck:Nat)(A3:Option Addr)(n3 c3:Nat)(rows:List Ent)(hr:In w A3 n3 c3 rows)(on:ByteArray)(A2:Option Addr)(n2 c2:Nat)(ocols:List Col)(ho:In w A2 n2 c2 ocols)(Al:Option Addr)(nl cl:Nat)(A4:Option Addr)(n4 c4:Nat)(orows:List Ent)(hor:In w A4 n4 c4 orows)(A5:Option Addr)(n5 c5:Nat)(zs:List Zone)(hz:In w A5 n5 c5 zs)(hb0:n<=4096)(hb1:n'<=4096)(hb2:n1<=4096)(hb3:n2<=4096)(hE:allErr x cols ocols rows orows zs=0)(hK:((x.kind==0)=true)\/((x.kind==0)=false/\(x.kind==1)=false/\(x.kind==2)=false/\(x.kind==3)=false/\(x.kind==4)=false)):
  Calls Tryz.prog 62 #[.agg (chkCells x A n c A' n' c' A'' n'' c'').toArray,.agg #[.string rn,.slice A1 n1 c1,.slice Ak nk ck,.slice A3 n3 c3],.agg #[.string on,.slice A2 n2 c2,.slice Al nl cl,.slice A4 n4 c4],.slice A5 n5 c5] w
   λe w'=>(∃fv,e=.returned fv/\IsBad w' fv cols (violB x cols ocols rows orows zs))/\Below w.heap.size w w':=by
 obtain ⟨hE1,hE2,hE3⟩:=all_zero hE
 obtain ⟨⟨k0,k6⟩,hcz,hcols⟩:=chk_zero hE1
 obtain ⟨hbz,htz,hrz⟩:=tabErr_zero hE2
 obtain ⟨hrl,hrc⟩:=bag_zero hbz htz
 have hrl':n3<=4096:=by rw[<-hr.len];exact hrl
 have HV:=hide λrow=>viol_kind (x:=x) (rc:=cols) (oc:=ocols) (rr:=rows) (orr:=orows) (zs:=zs) (row:=row)
 obtain ⟨VB,hVB⟩: ∃V,violB x cols ocols rows orows zs=V:=⟨_,rfl⟩
 rw[hVB]
 have HVB:=hide hVB
 have HE3:=hide hE3
 have HCZ:=hide hcz
 have HCOLS:=hide hcols
 have HRC:=hide hrc
 have HRZ:=hide hrz
 clear hE hE1 hE2 hE3 hcz hcols hbz htz hrl hrc hrz hVB k0 k6
 simp only[chkCells]
 rcases hK with q0|⟨q0,q1,q2,q3,q4⟩
 ·go_enter Tryz.func62,Tryz.ntmps62
  have HN:=hide hn
  clear hn
  have HN2:=hide hn'
  clear hn'
  have HQ:=hide hq
  clear hq
  have HW:=hide hw
  clear hw
  have HC:=hide hc
  clear hc
  have HO:=hide ho
  clear ho
  have HZ:=hide hz
  clear hz
  have HR:=hide hr
  clear hr
  have HOR:=hide hor
  clear hor
  go_wp2_with fail
  obtain ⟨W3,hW3,SZW3,hbW3,o1⟩:=start28 w x A n c A' n' c' A'' n'' c'' rn A1 n1 c1 Ak nk ck A3 n3 c3 on A2 n2 c2 Al nl cl A4 n4 c4
  rw[<-hW3]
  clear hW3
  have SG2:=hide hbW3
  clear hbW3
  obtain ⟨W4,hW4⟩: ∃W,W=W3.alloc (.cells #[.slice A5 n5 c5] 65):=⟨_,rfl⟩
  obtain ⟨hbW4,SZW4,z0⟩:=boxed1 (b:=w.heap.size+1+1+1) hW4 (by rw[SZW3.out])
  rw[<-hW4]
  clear hW4
  have SG3:=hide hbW4
  clear hbW4
  have L4:=lt_of_cell z0
  obtain ⟨FV,hFV⟩: ∃v,v=Value.func (.func 93) #[] #[.pointer (some ⟨w.heap.size+1,0,none⟩),.pointer (some ⟨w.heap.size,0,none⟩)]:=⟨_,rfl⟩
  rw[<-hFV]
  have HFV:=hide hFV
  clear hFV
  obtain ⟨W5,hW5⟩: ∃W,W=W4.alloc (.cells #[FV] 110):=⟨_,rfl⟩
  obtain ⟨hbW5,SZW5,p0⟩:=boxed1 (b:=w.heap.size+1+1+1+1) hW5 (by rw[SZW4.out,SZW3.out])
  rw[<-hW5]
  clear hW5
  have o4:=bun1 z0
  have SG5:=hide hbW5
  clear hbW5
  have L5:=lt_of_cell p0
  obtain ⟨hi,_,_,_⟩:=HCOLS.out (by have h9:x.kind=0:=(by simpa using q0);rw[usesC,h9];rfl)
  have HI:=hide hi
  have BC7:=hide (below_trans SG3.out SG5.out)
  obtain ⟨⟨LR,g0,g1,g2,g3,g4,g5,g6,g7,g8,g9,g10,g11,g12,g13⟩,⟨L2,r0,r1,r2,r3⟩,L3,s0,s1,s2,s3⟩:=o1.out _ BC7.out
  obtain ⟨L4,z0⟩:=o4.out _ SG5.out
  go_wp2_with fail
  have BC8:=hide (below_trans (below_trans SG2.out SG3.out) SG5.out)
  refine (counted_any _ rn A1 n1 c1 cols (HC.out.below BC8.out) Ak nk ck A3 n3 c3 rows (HR.out.below BC8.out) A n c x.cols (HN.out.below BC8.out) hb2 hb0 hrl' HRC.out).mono ?_
  rintro e w6 ⟨⟨b,rfl,hbm,hS⟩,hb6⟩
  have o9:=mix (bun14 g0 g1 g2 g3 g4 g5 g6 g7 g8 g9 g10 g11 g12 g13) (mix (bun4 r0 r1 r2 r3) (mix (bun4 s0 s1 s2 s3) (mix (bun1 z0) (bun1 p0))))
  have SG10:=hide hb6
  clear hb6
  have HS:=hide hS
  clear hS
  obtain ⟨W7,hW7⟩: ∃W,W=w6.alloc (.cells #[.map (some b)] 132):=⟨_,rfl⟩
  have m0:W7.cell? ⟨w6.heap.size,0,none⟩=some (.map (some b)):=by rw[hW7];simp[go_sem]
  have hb7:Below w6.heap.size w6 W7:=by rw[hW7];exact below_alloc
  obtain ⟨⟨LR,g0,g1,g2,g3,g4,g5,g6,g7,g8,g9,g10,g11,g12,g13⟩,⟨L2,r0,r1,r2,r3⟩,⟨L3,s0,s1,s2,s3⟩,⟨L4,z0⟩,L5,p0⟩:=o9.out _ SG10.out
  have BC11:=hide (below_trans (below_trans (below_trans SG2.out SG3.out) SG5.out) SG10.out)
  have HOW:=hide (OwnAt.mk (names:=x.cols) (cols:=cols) (p0.trans (congrArg some HFV.out)) r1 g3 (HC.out.below BC11.out) (HN.out.below BC11.out))
  have HM0:=hide m0
  have HB7:=hide hb7
  have HBW:=hide (below_trans (below_trans (below_trans (below_trans SG2.out SG3.out) SG5.out) SG10.out) hb7)
  clear m0 hb7
  go_wp2
  all_goals (try (exfalso;go_light;simp_all;done))
  rw[<-hW7]
  go_ret
  exact ⟨⟨_,rfl,95,[.pointer (some ⟨w6.heap.size,0,none⟩),.pointer (some ⟨w.heap.size+1+1+1+1,0,none⟩)],rfl,(λargs W=>by go_simp),λW hW Ar nr cr row hrow hfit=>by
   have h1:=unique_clo W _ _ _ A1 n1 c1 cols A n c x.cols (HOW.out.below (below_trans HB7.out hW)) hb2 hb0 Ar nr cr row hrow w6.heap.size b n3 (bat hW (lt_of_cell HM0.out) HM0.out) _ (HS.out.below (below_trans HB7.out hW))
   obtain ⟨p1,p2,p3⟩:=pickN_fit HCZ.out HI.out hfit
   rw[cnt_grp HCZ.out HI.out HRZ.out p2 p3]at h1
   rw[<-HVB.out,(HV.out row).1 (by simpa using q0)]
   exact h1⟩,HBW.out⟩
 ·go_enter Tryz.func62,Tryz.ntmps62
  have HN:=hide hn
  clear hn
  have HN2:=hide hn'
  clear hn'
  have HQ:=hide hq
  clear hq
  have HW:=hide hw
  clear hw
  have HC:=hide hc
  clear hc
  have HO:=hide ho
  clear ho
  have HZ:=hide hz
  clear hz
  have HR:=hide hr
  clear hr
  have HOR:=hide hor
  clear hor
  go_wp2_with fail
  obtain ⟨W3,hW3,SZW3,hbW3,o12⟩:=start28 w x A n c A' n' c' A'' n'' c'' rn A1 n1 c1 Ak nk ck A3 n3 c3 on A2 n2 c2 Al nl cl A4 n4 c4
  rw[<-hW3]
  clear hW3
  have SG13:=hide hbW3
  clear hbW3
  obtain ⟨W4,hW4⟩: ∃W,W=W3.alloc (.cells #[.slice A5 n5 c5] 65):=⟨_,rfl⟩
  obtain ⟨hbW4,SZW4,z0⟩:=boxed1 (b:=w.heap.size+1+1+1) hW4 (by rw[SZW3.out])
  rw[<-hW4]
  clear hW4
  have SG14:=hide hbW4
  clear hbW4
  have L4:=lt_of_cell z0
  obtain ⟨FV,hFV⟩: ∃v,v=Value.func (.func 93) #[] #[.pointer (some ⟨w.heap.size+1,0,none⟩),.pointer (some ⟨w.heap.size,0,none⟩)]:=⟨_,rfl⟩
  rw[<-hFV]
  have HFV:=hide hFV
  clear hFV
  obtain ⟨W5,hW5⟩: ∃W,W=W4.alloc (.cells #[FV] 110):=⟨_,rfl⟩
  obtain ⟨hbW5,SZW5,p0⟩:=boxed1 (b:=w.heap.size+1+1+1+1) hW5 (by rw[SZW4.out,SZW3.out])
  rw[<-hW5]
  clear hW5
  have o15:=bun1 z0
  have SG16:=hide hbW5
  clear hbW5
  have L5:=lt_of_cell p0
  have HBW:=hide (below_trans (below_trans SG13.out SG14.out) SG16.out)
  have BC17:=hide (below_trans SG14.out SG16.out)
  obtain ⟨⟨LR,g0,g1,g2,g3,g4,g5,g6,g7,g8,g9,g10,g11,g12,g13⟩,⟨L2,r0,r1,r2,r3⟩,L3,s0,s1,s2,s3⟩:=o12.out _ BC17.out
  obtain ⟨L4,z0⟩:=o15.out _ SG16.out
  go_wp2
  all_goals (try (exfalso;go_light;simp_all;done))
  go_ret
  exact ⟨⟨_,rfl,102,[],rfl,(λargs W=>by go_simp),λW hW Ar nr cr row hrow hfit=>by
   have h1:=none_clo W (.slice Ar nr cr)
   rw[<-HVB.out,(HV.out row).2.2.2.2.2 (by simpa using q0) (by simpa using q1) (by simpa using q2) (by simpa using q3) (by simpa using q4)]
   exact h1⟩,HBW.out⟩
section
variable (w:World)(x:Chk)(A:Option Addr)(n c:Nat)(hn:In w A n c x.cols)(A':Option Addr)(n' c':Nat)(hn':In w A' n' c' x.ocols)(A'':Option Addr)(n'' c'':Nat)(hq:In w A'' n'' c'' x.cond)(hw:Words w)(rn:ByteArray)(A1:Option Addr)(n1 c1:Nat)(cols:List Col)(hc:In w A1 n1 c1 cols)(Ak:Option Addr)(nk ck:Nat)(A3:Option Addr)(n3 c3:Nat)(rows:List Ent)(hr:In w A3 n3 c3 rows)(on:ByteArray)(A2:Option Addr)(n2 c2:Nat)(ocols:List Col)(ho:In w A2 n2 c2 ocols)(Al:Option Addr)(nl cl:Nat)(A4:Option Addr)(n4 c4:Nat)(orows:List Ent)(hor:In w A4 n4 c4 orows)(A5:Option Addr)(n5 c5:Nat)(zs:List Zone)(hz:In w A5 n5 c5 zs)
include w x A n c hn A' n' c' hn' A'' n'' c'' hq hw rn A1 n1 c1 cols hc Ak nk ck A3 n3 c3 rows hr on A2 n2 c2 ocols ho Al nl cl A4 n4 c4 orows hor A5 n5 c5 zs hz
theorem violated_r1 (hb0:n<=4096)(hb1:n'<=4096)(hb2:n1<=4096)(hb3:n2<=4096)(hE:allErr x cols ocols rows orows zs=0)(q0:(x.kind==0)=false)(q1:(x.kind==1)=true):
  Calls Tryz.prog 62 #[.agg (chkCells x A n c A' n' c' A'' n'' c'').toArray,.agg #[.string rn,.slice A1 n1 c1,.slice Ak nk ck,.slice A3 n3 c3],.agg #[.string on,.slice A2 n2 c2,.slice Al nl cl,.slice A4 n4 c4],.slice A5 n5 c5] w
   λe w'=>(∃fv,e=.returned fv/\IsBad w' fv cols (violB x cols ocols rows orows zs))/\Below w.heap.size w w':=by
 obtain ⟨hE1,hE2,hE3⟩:=all_zero hE
 obtain ⟨⟨k0,k6⟩,hcz,hcols⟩:=chk_zero hE1
 obtain ⟨hbz,htz,hrz⟩:=tabErr_zero hE2
 obtain ⟨hrl,hrc⟩:=bag_zero hbz htz
 have hrl':n3<=4096:=by rw[<-hr.len];exact hrl
 have HV:=hide λrow=>viol_kind (x:=x) (rc:=cols) (oc:=ocols) (rr:=rows) (orr:=orows) (zs:=zs) (row:=row)
 obtain ⟨VB,hVB⟩: ∃V,violB x cols ocols rows orows zs=V:=⟨_,rfl⟩
 rw[hVB]
 have HVB:=hide hVB
 have HE3:=hide hE3
 have HCZ:=hide hcz
 have HCOLS:=hide hcols
 have HRC:=hide hrc
 have HRZ:=hide hrz
 clear hE hE1 hE2 hE3 hcz hcols hbz htz hrl hrc hrz hVB k0 k6
 simp only[chkCells]
 go_enter Tryz.func62,Tryz.ntmps62
 have HN:=hide hn
 clear hn
 have HN2:=hide hn'
 clear hn'
 have HQ:=hide hq
 clear hq
 have HW:=hide hw
 clear hw
 have HC:=hide hc
 clear hc
 have HO:=hide ho
 clear ho
 have HZ:=hide hz
 clear hz
 have HR:=hide hr
 clear hr
 have HOR:=hide hor
 clear hor
 go_wp2_with fail
 obtain ⟨W3,hW3,SZW3,hbW3,o1⟩:=start28 w x A n c A' n' c' A'' n'' c'' rn A1 n1 c1 Ak nk ck A3 n3 c3 on A2 n2 c2 Al nl cl A4 n4 c4
 rw[<-hW3]
 clear hW3
 have SG2:=hide hbW3
 clear hbW3
 obtain ⟨W4,hW4⟩: ∃W,W=W3.alloc (.cells #[.slice A5 n5 c5] 65):=⟨_,rfl⟩
 obtain ⟨hbW4,SZW4,z0⟩:=boxed1 (b:=w.heap.size+1+1+1) hW4 (by rw[SZW3.out])
 rw[<-hW4]
 clear hW4
 have SG3:=hide hbW4
 clear hbW4
 have L4:=lt_of_cell z0
 obtain ⟨FV,hFV⟩: ∃v,v=Value.func (.func 93) #[] #[.pointer (some ⟨w.heap.size+1,0,none⟩),.pointer (some ⟨w.heap.size,0,none⟩)]:=⟨_,rfl⟩
 rw[<-hFV]
 have HFV:=hide hFV
 clear hFV
 obtain ⟨W5,hW5⟩: ∃W,W=W4.alloc (.cells #[FV] 110):=⟨_,rfl⟩
 obtain ⟨hbW5,SZW5,p0⟩:=boxed1 (b:=w.heap.size+1+1+1+1) hW5 (by rw[SZW4.out,SZW3.out])
 rw[<-hW5]
 clear hW5
 have o4:=bun1 z0
 have SG5:=hide hbW5
 clear hbW5
 have L5:=lt_of_cell p0
 obtain ⟨hi,hpos,hsing,hoth⟩:=HCOLS.out (by have h9:x.kind=1:=(by simpa using q1);rw[usesC,h9];rfl)
 have HI:=hide hi
 clear hi
 have BC6:=hide (below_trans SG3.out SG5.out)
 obtain ⟨⟨LR,g0,g1,g2,g3,g4,g5,g6,g7,g8,g9,g10,g11,g12,g13⟩,⟨L2,r0,r1,r2,r3⟩,L3,s0,s1,s2,s3⟩:=o1.out _ BC6.out
 have BC7:=hide (below_trans (below_trans SG2.out SG3.out) SG5.out)
 have HOW:=hide (OwnAt.mk (names:=x.cols) (cols:=cols) (p0.trans (congrArg some HFV.out)) r1 g3 (HC.out.below BC7.out) (HN.out.below BC7.out))
 have HBW:=hide (below_trans (below_trans SG2.out SG3.out) SG5.out)
 obtain ⟨L4,z0⟩:=o4.out _ SG5.out
 go_wp2
 all_goals (try (exfalso;go_light;simp_all;done))
 go_ret
 exact ⟨⟨_,rfl,97,[.pointer (some ⟨w.heap.size+1+1+1+1,0,none⟩)],rfl,(λargs W=>by go_simp),λW hW Ar nr cr row hrow hfit=>by
  have h1:=null_own W _ _ _ A1 n1 c1 cols A n c x.cols (HOW.out.below hW) hb2 hb0 Ar nr cr row hrow
  rw[<-HVB.out,(HV.out row).2.1 (by simpa using q1)]
  exact h1⟩,HBW.out⟩
theorem violated_r2 (hb0:n<=4096)(hb1:n'<=4096)(hb2:n1<=4096)(hb3:n2<=4096)(hE:allErr x cols ocols rows orows zs=0)(q0:(x.kind==0)=false)(q1:(x.kind==1)=false)(q2:(x.kind==2)=true):
  Calls Tryz.prog 62 #[.agg (chkCells x A n c A' n' c' A'' n'' c'').toArray,.agg #[.string rn,.slice A1 n1 c1,.slice Ak nk ck,.slice A3 n3 c3],.agg #[.string on,.slice A2 n2 c2,.slice Al nl cl,.slice A4 n4 c4],.slice A5 n5 c5] w
   λe w'=>(∃fv,e=.returned fv/\IsBad w' fv cols (violB x cols ocols rows orows zs))/\Below w.heap.size w w':=by
 obtain ⟨hE1,hE2,hE3⟩:=all_zero hE
 obtain ⟨⟨k0,k6⟩,hcz,hcols⟩:=chk_zero hE1
 obtain ⟨hbz,htz,hrz⟩:=tabErr_zero hE2
 obtain ⟨hrl,hrc⟩:=bag_zero hbz htz
 have hrl':n3<=4096:=by rw[<-hr.len];exact hrl
 have HV:=hide λrow=>viol_kind (x:=x) (rc:=cols) (oc:=ocols) (rr:=rows) (orr:=orows) (zs:=zs) (row:=row)
 obtain ⟨VB,hVB⟩: ∃V,violB x cols ocols rows orows zs=V:=⟨_,rfl⟩
 rw[hVB]
 have HVB:=hide hVB
 have HE3:=hide hE3
 have HCZ:=hide hcz
 have HCOLS:=hide hcols
 have HRC:=hide hrc
 have HRZ:=hide hrz
 clear hE hE1 hE2 hE3 hcz hcols hbz htz hrl hrc hrz hVB k0 k6
 simp only[chkCells]
 go_enter Tryz.func62,Tryz.ntmps62
 have HN:=hide hn
 clear hn
 have HN2:=hide hn'
 clear hn'
 have HQ:=hide hq
 clear hq
 have HW:=hide hw
 clear hw
 have HC:=hide hc
 clear hc
 have HO:=hide ho
 clear ho
 have HZ:=hide hz
 clear hz
 have HR:=hide hr
 clear hr
 have HOR:=hide hor
 clear hor
 go_wp2_with fail
 obtain ⟨W3,hW3,SZW3,hbW3,o8⟩:=start28 w x A n c A' n' c' A'' n'' c'' rn A1 n1 c1 Ak nk ck A3 n3 c3 on A2 n2 c2 Al nl cl A4 n4 c4
 rw[<-hW3]
 clear hW3
 have SG9:=hide hbW3
 clear hbW3
 obtain ⟨W4,hW4⟩: ∃W,W=W3.alloc (.cells #[.slice A5 n5 c5] 65):=⟨_,rfl⟩
 obtain ⟨hbW4,SZW4,z0⟩:=boxed1 (b:=w.heap.size+1+1+1) hW4 (by rw[SZW3.out])
 rw[<-hW4]
 clear hW4
 have SG10:=hide hbW4
 clear hbW4
 have L4:=lt_of_cell z0
 obtain ⟨FV,hFV⟩: ∃v,v=Value.func (.func 93) #[] #[.pointer (some ⟨w.heap.size+1,0,none⟩),.pointer (some ⟨w.heap.size,0,none⟩)]:=⟨_,rfl⟩
 rw[<-hFV]
 have HFV:=hide hFV
 clear hFV
 obtain ⟨W5,hW5⟩: ∃W,W=W4.alloc (.cells #[FV] 110):=⟨_,rfl⟩
 obtain ⟨hbW5,SZW5,p0⟩:=boxed1 (b:=w.heap.size+1+1+1+1) hW5 (by rw[SZW4.out,SZW3.out])
 rw[<-hW5]
 clear hW5
 have o11:=bun1 z0
 have SG12:=hide hbW5
 clear hbW5
 have L5:=lt_of_cell p0
 obtain ⟨hi,hpos,hsing,hoth⟩:=HCOLS.out (by have h9:x.kind=2:=(by simpa using q2);rw[usesC,h9];rfl)
 have HI:=hide hi
 clear hi
 have BC13:=hide (below_trans SG10.out SG12.out)
 obtain ⟨⟨LR,g0,g1,g2,g3,g4,g5,g6,g7,g8,g9,g10,g11,g12,g13⟩,⟨L2,r0,r1,r2,r3⟩,L3,s0,s1,s2,s3⟩:=o8.out _ BC13.out
 have BC14:=hide (below_trans (below_trans SG9.out SG10.out) SG12.out)
 have HOW:=hide (OwnAt.mk (names:=x.cols) (cols:=cols) (p0.trans (congrArg some HFV.out)) r1 g3 (HC.out.below BC14.out) (HN.out.below BC14.out))
 have G6:=hide g6
 have G7:=hide g7
 have GL:=hide LR
 have HPOS:=hide hpos
 clear hpos hsing hoth
 have HBW:=hide (below_trans (below_trans SG9.out SG10.out) SG12.out)
 obtain ⟨L4,z0⟩:=o11.out _ SG12.out
 go_wp2
 all_goals (try (exfalso;go_light;simp_all;done))
 go_ret
 exact ⟨⟨_,rfl,99,[.pointer (some ⟨w.heap.size+1+1+1+1,0,none⟩),.pointer (some ⟨w.heap.size,0,none⟩)],rfl,(λargs W=>by go_simp),λW hW Ar nr cr row hrow hfit=>by
  have hp:=(pickN_fit HCZ.out HI.out hfit).1
  have hpos:=HPOS.out
  have h1:=range_clo W _ _ _ A1 n1 c1 cols A n c x.cols (HOW.out.below hW) hb2 hb0 Ar nr cr row hrow x.low x.high (bat hW GL.out G6.out) (bat hW GL.out G7.out) (by omega)
  rw[<-HVB.out,(HV.out row).2.2.1 (by simpa using q2),rangeB]
  exact h1⟩,HBW.out⟩
theorem violated_r3 (hb0:n<=4096)(hb1:n'<=4096)(hb2:n1<=4096)(hb3:n2<=4096)(hE:allErr x cols ocols rows orows zs=0)(q0:(x.kind==0)=false)(q1:(x.kind==1)=false)(q2:(x.kind==2)=false)(q3:(x.kind==3)=true):
  Calls Tryz.prog 62 #[.agg (chkCells x A n c A' n' c' A'' n'' c'').toArray,.agg #[.string rn,.slice A1 n1 c1,.slice Ak nk ck,.slice A3 n3 c3],.agg #[.string on,.slice A2 n2 c2,.slice Al nl cl,.slice A4 n4 c4],.slice A5 n5 c5] w
   λe w'=>(∃fv,e=.returned fv/\IsBad w' fv cols (violB x cols ocols rows orows zs))/\Below w.heap.size w w':=by
 obtain ⟨hE1,hE2,hE3⟩:=all_zero hE
 obtain ⟨⟨k0,k6⟩,hcz,hcols⟩:=chk_zero hE1
 obtain ⟨hbz,htz,hrz⟩:=tabErr_zero hE2
 obtain ⟨hrl,hrc⟩:=bag_zero hbz htz
 have hrl':n3<=4096:=by rw[<-hr.len];exact hrl
 have HV:=hide λrow=>viol_kind (x:=x) (rc:=cols) (oc:=ocols) (rr:=rows) (orr:=orows) (zs:=zs) (row:=row)
 obtain ⟨VB,hVB⟩: ∃V,violB x cols ocols rows orows zs=V:=⟨_,rfl⟩
 rw[hVB]
 have HVB:=hide hVB
 have HE3:=hide hE3
 have HCZ:=hide hcz
 have HCOLS:=hide hcols
 have HRC:=hide hrc
 have HRZ:=hide hrz
 clear hE hE1 hE2 hE3 hcz hcols hbz htz hrl hrc hrz hVB k0 k6
 simp only[chkCells]
 go_enter Tryz.func62,Tryz.ntmps62
 have HN:=hide hn
 clear hn
 have HN2:=hide hn'
 clear hn'
 have HQ:=hide hq
 clear hq
 have HW:=hide hw
 clear hw
 have HC:=hide hc
 clear hc
 have HO:=hide ho
 clear ho
 have HZ:=hide hz
 clear hz
 have HR:=hide hr
 clear hr
 have HOR:=hide hor
 clear hor
 go_wp2_with fail
 obtain ⟨W3,hW3,SZW3,hbW3,o15⟩:=start28 w x A n c A' n' c' A'' n'' c'' rn A1 n1 c1 Ak nk ck A3 n3 c3 on A2 n2 c2 Al nl cl A4 n4 c4
 rw[<-hW3]
 clear hW3
 have SG16:=hide hbW3
 clear hbW3
 obtain ⟨W4,hW4⟩: ∃W,W=W3.alloc (.cells #[.slice A5 n5 c5] 65):=⟨_,rfl⟩
 obtain ⟨hbW4,SZW4,z0⟩:=boxed1 (b:=w.heap.size+1+1+1) hW4 (by rw[SZW3.out])
 rw[<-hW4]
 clear hW4
 have SG17:=hide hbW4
 clear hbW4
 have L4:=lt_of_cell z0
 obtain ⟨FV,hFV⟩: ∃v,v=Value.func (.func 93) #[] #[.pointer (some ⟨w.heap.size+1,0,none⟩),.pointer (some ⟨w.heap.size,0,none⟩)]:=⟨_,rfl⟩
 rw[<-hFV]
 have HFV:=hide hFV
 clear hFV
 obtain ⟨W5,hW5⟩: ∃W,W=W4.alloc (.cells #[FV] 110):=⟨_,rfl⟩
 obtain ⟨hbW5,SZW5,p0⟩:=boxed1 (b:=w.heap.size+1+1+1+1) hW5 (by rw[SZW4.out,SZW3.out])
 rw[<-hW5]
 clear hW5
 have o18:=bun1 z0
 have SG19:=hide hbW5
 clear hbW5
 have L5:=lt_of_cell p0
 obtain ⟨hi,hpos,hsing,hoth⟩:=HCOLS.out (by have h9:x.kind=3:=(by simpa using q3);rw[usesC,h9];rfl)
 have HI:=hide hi
 clear hi
 have hk3:x.kind=3:=by simpa using q3
 obtain ⟨hoc,hio,hlo⟩:=hoth (by rw[usesO,hk3];rfl)
 have hE3:=HE3.out (by rw[usesO,hk3];rfl)
 obtain ⟨hbz,htz,hrz⟩:=tabErr_zero hE3
 obtain ⟨hrl,hrc⟩:=bag_zero hbz htz
 have hrl2:n4<=4096:=by rw[<-HOR.out.len];exact hrl
 have HOC:=hide hoc
 have HIO:=hide hio
 have HRZ2:=hide hrz
 have HRC2:=hide hrc
 clear hpos hsing hoth hoc hio hlo hE3 hbz htz hrz hrl hrc hk3
 have BC21:=hide (below_trans SG17.out SG19.out)
 obtain ⟨⟨LR,g0,g1,g2,g3,g4,g5,g6,g7,g8,g9,g10,g11,g12,g13⟩,⟨L2,r0,r1,r2,r3⟩,L3,s0,s1,s2,s3⟩:=o15.out _ BC21.out
 obtain ⟨L4,z0⟩:=o18.out _ SG19.out
 go_wp2_with fail
 have BC22:=hide (below_trans (below_trans SG16.out SG17.out) SG19.out)
 refine (counted_any _ on A2 n2 c2 ocols (HO.out.below BC22.out) Al nl cl A4 n4 c4 orows (HOR.out.below BC22.out) A' n' c' x.ocols (HN2.out.below BC22.out) hb3 hb1 hrl2 HRC2.out).mono ?_
 rintro e w20 ⟨⟨b,rfl,hbm,hS⟩,hb20⟩
 have o23:=mix (bun14 g0 g1 g2 g3 g4 g5 g6 g7 g8 g9 g10 g11 g12 g13) (mix (bun4 r0 r1 r2 r3) (mix (bun4 s0 s1 s2 s3) (mix (bun1 z0) (bun1 p0))))
 have SG24:=hide hb20
 clear hb20
 have HS:=hide hS
 clear hS
 obtain ⟨W7,hW7⟩: ∃W,W=w20.alloc (.cells #[.map (some b)] 132):=⟨_,rfl⟩
 have m0:W7.cell? ⟨w20.heap.size,0,none⟩=some (.map (some b)):=by rw[hW7];simp[go_sem]
 have hb7:Below w20.heap.size w20 W7:=by rw[hW7];exact below_alloc
 obtain ⟨⟨LR,g0,g1,g2,g3,g4,g5,g6,g7,g8,g9,g10,g11,g12,g13⟩,⟨L2,r0,r1,r2,r3⟩,⟨L3,s0,s1,s2,s3⟩,⟨L4,z0⟩,L5,p0⟩:=o23.out _ SG24.out
 have BC25:=hide (below_trans (below_trans (below_trans SG16.out SG17.out) SG19.out) SG24.out)
 have HOW:=hide (OwnAt.mk (names:=x.cols) (cols:=cols) (p0.trans (congrArg some HFV.out)) r1 g3 (HC.out.below BC25.out) (HN.out.below BC25.out))
 have HM0:=hide m0
 have HB7:=hide hb7
 have HBW:=hide (below_trans (below_trans (below_trans (below_trans SG16.out SG17.out) SG19.out) SG24.out) hb7)
 clear m0 hb7
 go_wp2
 all_goals (try (exfalso;go_light;simp_all;done))
 rw[<-hW7]
 go_ret
 exact ⟨⟨_,rfl,100,[.pointer (some ⟨w.heap.size+1+1+1+1,0,none⟩),.pointer (some ⟨w20.heap.size,0,none⟩)],rfl,(λargs W=>by go_simp),λW hW Ar nr cr row hrow hfit=>by
  have h1:=other_clo W _ _ _ A1 n1 c1 cols A n c x.cols (HOW.out.below (below_trans HB7.out hW)) hb2 hb0 Ar nr cr row hrow w20.heap.size b n4 (bat hW (lt_of_cell HM0.out) HM0.out) _ (HS.out.below (below_trans HB7.out hW))
  obtain ⟨p1,p2,p3⟩:=pickN_fit HCZ.out HI.out hfit
  rw[cnt_grp HOC.out HIO.out HRZ2.out p2 p3,totC_pos (l:=grp ocols x.ocols orows (pickN cols x.cols row)) λy hy=>(HRC2.out y (List.mem_filter.1 hy).1).1]at h1
  rw[<-HVB.out,(HV.out row).2.2.2.1 (by simpa using q3)]
  exact h1⟩,HBW.out⟩
theorem violated_r4 (hb0:n<=4096)(hb1:n'<=4096)(hb2:n1<=4096)(hb3:n2<=4096)(hE:allErr x cols ocols rows orows zs=0)(q0:(x.kind==0)=false)(q1:(x.kind==1)=false)(q2:(x.kind==2)=false)(q3:(x.kind==3)=false)(q4:(x.kind==4)=true):
  Calls Tryz.prog 62 #[.agg (chkCells x A n c A' n' c' A'' n'' c'').toArray,.agg #[.string rn,.slice A1 n1 c1,.slice Ak nk ck,.slice A3 n3 c3],.agg #[.string on,.slice A2 n2 c2,.slice Al nl cl,.slice A4 n4 c4],.slice A5 n5 c5] w
   λe w'=>(∃fv,e=.returned fv/\IsBad w' fv cols (violB x cols ocols rows orows zs))/\Below w.heap.size w w':=by
 obtain ⟨hE1,hE2,hE3⟩:=all_zero hE
 obtain ⟨⟨k0,k6⟩,hcz,hcols⟩:=chk_zero hE1
 obtain ⟨hbz,htz,hrz⟩:=tabErr_zero hE2
 obtain ⟨hrl,hrc⟩:=bag_zero hbz htz
 have hrl':n3<=4096:=by rw[<-hr.len];exact hrl
 have HV:=hide λrow=>viol_kind (x:=x) (rc:=cols) (oc:=ocols) (rr:=rows) (orr:=orows) (zs:=zs) (row:=row)
 obtain ⟨VB,hVB⟩: ∃V,violB x cols ocols rows orows zs=V:=⟨_,rfl⟩
 rw[hVB]
 have HVB:=hide hVB
 have HE3:=hide hE3
 have HCZ:=hide hcz
 have HCOLS:=hide hcols
 have HRC:=hide hrc
 have HRZ:=hide hrz
 clear hE hE1 hE2 hE3 hcz hcols hbz htz hrl hrc hrz hVB k0 k6
 simp only[chkCells]
 go_enter Tryz.func62,Tryz.ntmps62
 have HN:=hide hn
 clear hn
 have HN2:=hide hn'
 clear hn'
 have HQ:=hide hq
 clear hq
 have HW:=hide hw
 clear hw
 have HC:=hide hc
 clear hc
 have HO:=hide ho
 clear ho
 have HZ:=hide hz
 clear hz
 have HR:=hide hr
 clear hr
 have HOR:=hide hor
 clear hor
 go_wp2_with fail
 obtain ⟨W3,hW3,SZW3,hbW3,o26⟩:=start28 w x A n c A' n' c' A'' n'' c'' rn A1 n1 c1 Ak nk ck A3 n3 c3 on A2 n2 c2 Al nl cl A4 n4 c4
 rw[<-hW3]
 clear hW3
 have SG27:=hide hbW3
 clear hbW3
 obtain ⟨W4,hW4⟩: ∃W,W=W3.alloc (.cells #[.slice A5 n5 c5] 65):=⟨_,rfl⟩
 obtain ⟨hbW4,SZW4,z0⟩:=boxed1 (b:=w.heap.size+1+1+1) hW4 (by rw[SZW3.out])
 rw[<-hW4]
 clear hW4
 have SG28:=hide hbW4
 clear hbW4
 have L4:=lt_of_cell z0
 obtain ⟨FV,hFV⟩: ∃v,v=Value.func (.func 93) #[] #[.pointer (some ⟨w.heap.size+1,0,none⟩),.pointer (some ⟨w.heap.size,0,none⟩)]:=⟨_,rfl⟩
 rw[<-hFV]
 have HFV:=hide hFV
 clear hFV
 obtain ⟨W5,hW5⟩: ∃W,W=W4.alloc (.cells #[FV] 110):=⟨_,rfl⟩
 obtain ⟨hbW5,SZW5,p0⟩:=boxed1 (b:=w.heap.size+1+1+1+1) hW5 (by rw[SZW4.out,SZW3.out])
 rw[<-hW5]
 clear hW5
 have o29:=bun1 z0
 have SG30:=hide hbW5
 clear hbW5
 have L5:=lt_of_cell p0
 have BC31:=hide (below_trans SG28.out SG30.out)
 obtain ⟨⟨LR,g0,g1,g2,g3,g4,g5,g6,g7,g8,g9,g10,g11,g12,g13⟩,⟨L2,r0,r1,r2,r3⟩,L3,s0,s1,s2,s3⟩:=o26.out _ BC31.out
 have HCA:=hide (ChkAt.mk g0 g1 g2 g3 g4 g5 g6 g7 g8 g9 g10 g11 g12 g13)
 have R1:=hide r1
 have LR2:=hide L2
 obtain ⟨L4,z0⟩:=o29.out _ SG30.out
 have Z0:=hide z0
 have LZ:=hide L4
 have HBW:=hide (below_trans (below_trans SG27.out SG28.out) SG30.out)
 go_wp2
 all_goals (try (exfalso;go_light;simp_all;done))
 go_ret
 exact ⟨⟨_,rfl,101,[.pointer (some ⟨w.heap.size,0,none⟩),.pointer (some ⟨w.heap.size+1,0,none⟩),.pointer (some ⟨w.heap.size+1+1+1,0,none⟩)],rfl,(λargs W=>by go_simp),λW hW Ar nr cr row hrow hfit=>by
  have BC32:=hide (below_trans (below_trans SG27.out SG28.out) SG30.out)
  have h1:=cond_clo W _ _ _ x A n c A' n' c' A'' n'' c'' (HCA.out.below hW) A1 n1 c1 cols (bat hW LR2.out R1.out) A5 n5 c5 zs (bat hW LZ.out Z0.out) ((HQ.out.below BC32.out).below hW) ((HW.out.below BC32.out).below hW) ((HC.out.below BC32.out).below hW) ((HZ.out.below BC32.out).below hW) Ar nr cr row hrow
  rw[<-HVB.out,(HV.out row).2.2.2.2.1 (by simpa using q4)]
  exact h1⟩,HBW.out⟩
theorem violated_any (hb0:n<=4096)(hb1:n'<=4096)(hb2:n1<=4096)(hb3:n2<=4096)(hE:allErr x cols ocols rows orows zs=0):
  Calls Tryz.prog 62 #[.agg (chkCells x A n c A' n' c' A'' n'' c'').toArray,.agg #[.string rn,.slice A1 n1 c1,.slice Ak nk ck,.slice A3 n3 c3],.agg #[.string on,.slice A2 n2 c2,.slice Al nl cl,.slice A4 n4 c4],.slice A5 n5 c5] w
   λe w'=>(∃fv,e=.returned fv/\IsBad w' fv cols (violB x cols ocols rows orows zs))/\Below w.heap.size w w':=by
 have hK:((x.kind==0)=true)\/((x.kind==0)=false/\(x.kind==1)=true)\/((x.kind==0)=false/\(x.kind==1)=false/\(x.kind==2)=true)\/((x.kind==0)=false/\(x.kind==1)=false/\(x.kind==2)=false/\(x.kind==3)=true)
   \/((x.kind==0)=false/\(x.kind==1)=false/\(x.kind==2)=false/\(x.kind==3)=false/\(x.kind==4)=true)\/((x.kind==0)=false/\(x.kind==1)=false/\(x.kind==2)=false/\(x.kind==3)=false/\(x.kind==4)=false):=by
  cases h0:(x.kind==0) <;> cases h1:(x.kind==1) <;> cases h2:(x.kind==2) <;> cases h3:(x.kind==3) <;> cases h4:(x.kind==4) <;> simp
 rcases hK with q0|⟨q0,q1⟩|⟨q0,q1,q2⟩|⟨q0,q1,q2,q3⟩|⟨q0,q1,q2,q3,q4⟩|⟨q0,q1,q2,q3,q4⟩
 ·exact violated_p w x A n c hn A' n' c' hn' A'' n'' c'' hq hw rn A1 n1 c1 cols hc Ak nk ck A3 n3 c3 rows hr on A2 n2 c2 ocols ho Al nl cl A4 n4 c4 orows hor A5 n5 c5 zs hz hb0 hb1 hb2 hb3 hE (.inl q0)
 ·exact violated_r1 w x A n c hn A' n' c' hn' A'' n'' c'' hq hw rn A1 n1 c1 cols hc Ak nk ck A3 n3 c3 rows hr on A2 n2 c2 ocols ho Al nl cl A4 n4 c4 orows hor A5 n5 c5 zs hz hb0 hb1 hb2 hb3 hE q0 q1
 ·exact violated_r2 w x A n c hn A' n' c' hn' A'' n'' c'' hq hw rn A1 n1 c1 cols hc Ak nk ck A3 n3 c3 rows hr on A2 n2 c2 ocols ho Al nl cl A4 n4 c4 orows hor A5 n5 c5 zs hz hb0 hb1 hb2 hb3 hE q0 q1 q2
 ·exact violated_r3 w x A n c hn A' n' c' hn' A'' n'' c'' hq hw rn A1 n1 c1 cols hc Ak nk ck A3 n3 c3 rows hr on A2 n2 c2 ocols ho Al nl cl A4 n4 c4 orows hor A5 n5 c5 zs hz hb0 hb1 hb2 hb3 hE q0 q1 q2 q3
 ·exact violated_r4 w x A n c hn A' n' c' hn' A'' n'' c'' hq hw rn A1 n1 c1 cols hc Ak nk ck A3 n3 c3 rows hr on A2 n2 c2 ocols ho Al nl cl A4 n4 c4 orows hor A5 n5 c5 zs hz hb0 hb1 hb2 hb3 hE q0 q1 q2 q3 q4
 ·exact violated_p w x A n c hn A' n' c' hn' A'' n'' c'' hq hw rn A1 n1 c1 cols hc Ak nk ck A3 n3 c3 rows hr on A2 n2 c2 ocols ho Al nl cl A4 n4 c4 orows hor A5 n5 c5 zs hz hb0 hb1 hb2 hb3 hE (.inr ⟨q0,q1,q2,q3,q4⟩)
end
end Go.Proofs.YtggejcekmehocaaGreatDoor
