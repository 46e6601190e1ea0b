/-
  check.violated: the function that reports whether a row violates a row check: unique checks, and checks of no row. (Printed by gen_viol.py.) check.violated: the function that reports whether a row violates a row check. (Printed by gen_viol.py.)
-/
import Derived.Laws.EntriesVeiled
import Derived.Test.YtggejcekmehocaaGreatDoorChkA
import Derived.Test.YtggejcekmehocaaGreatDoorCls
import Derived.Test.YtggejcekmehocaaGreatDoorGal
namespace Go.Proofs.YtggejcekmehocaaGreatDoor
set_option maxHeartbeats 4000000
set_option maxRecDepth 100000
open Go.RowKit Go.Maps
set_option linter.unusedSimpArgs false
set_option linter.unusedVariables false
theorem H9 {cols:List Col}{names:List ByteArray}{rows:List Ent}{v:List Val}(hc:aD cols=0)(hi:(bD cols names).1=0)(hr: ∀x∈rows,aS cols x.row=0)(hl:v.length<=12)(hv: ∀u∈v,valid u=true):
  uI cols names rows (jP v)=aH (sQ cols names rows v):=by
 rw[uI,sQ]
 congr 1
 refine List.filter_congr λx hx=>?_
 obtain ⟨_,h2,h3⟩:=su hc hi (hr x hx)
 have h:=M3 h2 h3 hl hv
 cases h4:jO (aN cols names x.row) v
 ·have h5:¬aN cols names x.row=v:=λe=>by rw[kg.2 e]at h4;cases h4
  simpa using λe=>h5 (h.1 e)
 ·simpa using h.2 (kg.1 h4)
def ul (w:World)(fv:Value)(rc:List Col)(f:List Val->Bool):Prop:=
 ∃(k:Nat) (IY:List Value),fv=.func (.func k) #[] IY.toArray/\(∀args W,(callFunc k args).run Tryz.prog W=.ok (.enter k args) W)/\ ∀W,Below w.heap.size w W-> ∀A n c row,In W A n c row->aS rc row=0->
  Calls Tryz.prog k (.slice A n c :: IY).toArray W λe w'=>e=.returned (.bool (f row))/\Below W.heap.size W w'
theorem ul.below {w w1:World}{fv:Value}{rc:List Col}{f:List Val->Bool}(h:ul w fv rc f)(hb:Below w.heap.size w w1):ul w1 fv rc f:=by
 obtain ⟨k,IY,h1,h0,h2⟩:=h
 exact ⟨k,IY,h1,h0,λW hW=>h2 W (aa hb hW)⟩
theorem iF {x:Chk}{rc oc:List Col}{rr orr:List Ent}{zs:List Zone}{row:List Val}:
  (x.kind=0->cO x rc oc rr orr zs row=decide (1<aH (sQ rc x.cols rr (aN rc x.cols row))))/\(x.kind=1->cO x rc oc rr orr zs row=kZ (aN rc x.cols row))/\
  (x.kind=2->cO x rc oc rr orr zs row=GM x ((aN rc x.cols row).getD 0 zeroV))/\(x.kind=3->cO x rc oc rr orr zs row=(!kZ (aN rc x.cols row)&&(sQ oc x.ocols orr (aN rc x.cols row)).isEmpty))/\
  (x.kind=4->cO x rc oc rr orr zs row=!bB x.cond rc row zs)/\(¬x.kind=0->¬x.kind=1->¬x.kind=2->¬x.kind=3->¬x.kind=4->cO x rc oc rr orr zs row=false):=by
 refine ⟨?_,?_,?_,?_,?_,?_⟩
 ·intro h;simp[cO,h]
 ·intro h;simp[cO,h]
 ·intro h;simp[cO,h]
 ·intro h;simp[cO,h]
 ·intro h;simp[cO,h]
 ·intro h0 h1 h2 h3 h4;simp[cO,h0,h1,h2,h3,h4]
theorem ug (w:World)(x:Chk)(A:Option Addr)(n c:Nat)(hn:In w A n c x.cols)(A':Option Addr)(n' c':Nat)(hn':In w A' n' c' x.ocols)(aY:Option Addr)(n'' c'':Nat)(hq:In w aY n'' c'' x.cond)(hw:Words w)(rn:ByteArray)(A1:Option Addr)(n1 c1:Nat)(cols:List Col)(hc:In w A1 n1 c1 cols)(Ak:Option Addr)(nk ck:Nat)(A3:Option Addr)(n3 c3:Nat)(rows:List Ent)(hr:In w A3 n3 c3 rows)(on:ByteArray)(A2:Option Addr)(n2 c2:Nat)(ocols:List Col)(ho:In w A2 n2 c2 ocols)(Al:Option Addr)(nl cl:Nat)(A4:Option Addr)(n4 c4:Nat)(orows:List Ent)(hor:In w A4 n4 c4 orows)(A5:Option Addr)(n5 c5:Nat)(zs:List Zone)(hz:In w A5 n5 c5 zs)(hb0:n<=4096)(hb1:n'<=4096)(hb2:n1<=4096)(hb3:n2<=4096)(hE:aI x cols ocols rows orows zs=0)(hK:((x.kind==0)=true)\/((x.kind==0)=false/\(x.kind==1)=false/\(x.kind==2)=false/\(x.kind==3)=false/\(x.kind==4)=false)):
  Calls Tryz.prog 62 #[.agg (ax x A n c A' n' c' aY n'' c'').toArray,.agg #[.string rn,.slice A1 n1 c1,.slice Ak nk ck,.slice A3 n3 c3],.agg #[.string on,.slice A2 n2 c2,.slice Al nl cl,.slice A4 n4 c4],.slice A5 n5 c5] w
   λe w'=>(∃fv,e=.returned fv/\ul w' fv cols (cO x cols ocols rows orows zs))/\Below w.heap.size w w':=by
 obtain ⟨hE1,hE2,kM⟩:=dR hE
 obtain ⟨⟨k0,k6⟩,hcz,dN⟩:=fw hE1
 obtain ⟨hbz,htz,hrz⟩:=bA hE2
 obtain ⟨hrl,hrc⟩:=eQ hbz htz
 have hrl':n3<=4096:=by rw[<-hr.len];exact hrl
 have HV:=hide λrow=>iF (x:=x) (rc:=cols) (oc:=ocols) (rr:=rows) (orr:=orows) (zs:=zs) (row:=row)
 obtain ⟨VB,fB⟩: ∃V,cO x cols ocols rows orows zs=V:=⟨_,rfl⟩
 rw[fB]
 have FB:=hide fB
 have Kk:=hide kM
 have PE:=hide hcz
 have mG:=hide dN
 have Ca:=hide hrc
 have Kz:=hide hrz
 clear hE hE1 hE2 kM hcz dN hbz htz hrl hrc hrz fB k0 k6
 simp only[ax]
 rcases hK with q0|⟨q0,q1,q2,q3,q4⟩
 ·go_enter Tryz.func62,Tryz.ntmps62
  have HN:=hide hn
  clear hn
  have eT:=hide hn'
  clear hn'
  have HQ:=hide hq
  clear hq
  have HW:=hide hw
  clear hw
  have HC:=hide hc
  clear hc
  have HO:=hide ho
  clear ho
  have HZ:=hide hz
  clear hz
  have HR:=hide hr
  clear hr
  have kr:=hide hor
  clear hor
  go_wp2_with fail
  obtain ⟨W3,hW3,d9,bR,o1⟩:=dm w x A n c A' n' c' aY n'' c'' rn A1 n1 c1 Ak nk ck A3 n3 c3 on A2 n2 c2 Al nl cl A4 n4 c4
  rw[<-hW3]
  clear hW3
  have fK:=hide bR
  clear bR
  obtain ⟨W4,jb⟩: ∃W,W=W3.alloc (.cells #[.slice A5 n5 c5] 65):=⟨_,rfl⟩
  obtain ⟨fI,mZ,z0⟩:=lT (b:=w.heap.size+1+1+1) jb (by rw[d9.out])
  rw[<-jb]
  clear jb
  have oO:=hide fI
  clear fI
  have L4:=lt_of_cell z0
  obtain ⟨FV,yT⟩: ∃v,v=Value.func (.func 93) #[] #[.pointer (some ⟨w.heap.size+1,0,none⟩),.pointer (some ⟨w.heap.size,0,none⟩)]:=⟨_,rfl⟩
  rw[<-yT]
  have NF:=hide yT
  clear yT
  obtain ⟨W5,yU⟩: ∃W,W=W4.alloc (.cells #[FV] 110):=⟨_,rfl⟩
  obtain ⟨rq,Lb,p0⟩:=lT (b:=w.heap.size+1+1+1+1) yU (by rw[mZ.out,d9.out])
  rw[<-yU]
  clear yU
  have o4:=uE z0
  have nZ:=hide rq
  clear rq
  have L5:=lt_of_cell p0
  obtain ⟨hi,_,_,_⟩:=mG.out (by have h9:x.kind=0:=(by simpa using q0);rw[iE,h9];rfl)
  have HI:=hide hi
  have Py:=hide (aa oO.out nZ.out)
  obtain ⟨⟨LR,g0,g1,g2,g3,g4,g5,g6,g7,g8,g9,g10,g11,g12,g13⟩,⟨L2,r0,r1,r2,r3⟩,L3,s0,s1,s2,s3⟩:=o1.out _ Py.out
  obtain ⟨L4,z0⟩:=o4.out _ nZ.out
  go_wp2_with fail
  have J4:=hide (aa (aa fK.out oO.out) nZ.out)
  refine (wM _ rn A1 n1 c1 cols (HC.out.below J4.out) Ak nk ck A3 n3 c3 rows (HR.out.below J4.out) A n c x.cols (HN.out.below J4.out) hb2 hb0 hrl' Ca.out).mono ?_
  rintro e w6 ⟨⟨b,rfl,Nn,hS⟩,hb6⟩
  have o9:=lX (jF g0 g1 g2 g3 g4 g5 g6 g7 g8 g9 g10 g11 g12 g13) (lX (jI r0 r1 r2 r3) (lX (jI s0 s1 s2 s3) (lX (uE z0) (uE p0))))
  have fZ:=hide hb6
  clear hb6
  have HS:=hide hS
  clear hS
  obtain ⟨W7,Rk⟩: ∃W,W=w6.alloc (.cells #[.map (some b)] 132):=⟨_,rfl⟩
  have m0:W7.cell? ⟨w6.heap.size,0,none⟩=some (.map (some b)):=by rw[Rk];simp[go_sem]
  have dC:Below w6.heap.size w6 W7:=by rw[Rk];exact af
  obtain ⟨⟨LR,g0,g1,g2,g3,g4,g5,g6,g7,g8,g9,g10,g11,g12,g13⟩,⟨L2,r0,r1,r2,r3⟩,⟨L3,s0,s1,s2,s3⟩,⟨L4,z0⟩,L5,p0⟩:=o9.out _ fZ.out
  have Ir:=hide (aa (aa (aa fK.out oO.out) nZ.out) fZ.out)
  have HOW:=hide (OwnAt.mk (names:=x.cols) (cols:=cols) (p0.trans (congrArg some NF.out)) r1 g3 (HC.out.below Ir.out) (HN.out.below Ir.out))
  have IB:=hide m0
  have ik:=hide dC
  have jk:=hide (aa (aa (aa (aa fK.out oO.out) nZ.out) fZ.out) dC)
  clear m0 dC
  go_wp2
  all_goals (try (exfalso;go_light;simp_all;done))
  rw[<-Rk]
  go_ret
  exact ⟨⟨_,rfl,95,[.pointer (some ⟨w6.heap.size,0,none⟩),.pointer (some ⟨w.heap.size+1+1+1+1,0,none⟩)],rfl,(λargs W=>by go_simp),λW hW Ar nr cr row hrow hfit=>by
   have h1:=G8 W _ _ _ A1 n1 c1 cols A n c x.cols (HOW.out.below (aa ik.out hW)) hb2 hb0 Ar nr cr row hrow w6.heap.size b n3 (ah hW (lt_of_cell IB.out) IB.out) _ (HS.out.below (aa ik.out hW))
   obtain ⟨p1,p2,p3⟩:=su PE.out HI.out hfit
   rw[H9 PE.out HI.out Kz.out p2 p3]at h1
   rw[<-FB.out,(HV.out row).1 (by simpa using q0)]
   exact h1⟩,jk.out⟩
 ·go_enter Tryz.func62,Tryz.ntmps62
  have HN:=hide hn
  clear hn
  have eT:=hide hn'
  clear hn'
  have HQ:=hide hq
  clear hq
  have HW:=hide hw
  clear hw
  have HC:=hide hc
  clear hc
  have HO:=hide ho
  clear ho
  have HZ:=hide hz
  clear hz
  have HR:=hide hr
  clear hr
  have kr:=hide hor
  clear hor
  go_wp2_with fail
  obtain ⟨W3,hW3,d9,bR,JC⟩:=dm w x A n c A' n' c' aY n'' c'' rn A1 n1 c1 Ak nk ck A3 n3 c3 on A2 n2 c2 Al nl cl A4 n4 c4
  rw[<-hW3]
  clear hW3
  have ut:=hide bR
  clear bR
  obtain ⟨W4,jb⟩: ∃W,W=W3.alloc (.cells #[.slice A5 n5 c5] 65):=⟨_,rfl⟩
  obtain ⟨fI,mZ,z0⟩:=lT (b:=w.heap.size+1+1+1) jb (by rw[d9.out])
  rw[<-jb]
  clear jb
  have mW:=hide fI
  clear fI
  have L4:=lt_of_cell z0
  obtain ⟨FV,yT⟩: ∃v,v=Value.func (.func 93) #[] #[.pointer (some ⟨w.heap.size+1,0,none⟩),.pointer (some ⟨w.heap.size,0,none⟩)]:=⟨_,rfl⟩
  rw[<-yT]
  have NF:=hide yT
  clear yT
  obtain ⟨W5,yU⟩: ∃W,W=W4.alloc (.cells #[FV] 110):=⟨_,rfl⟩
  obtain ⟨rq,Lb,p0⟩:=lT (b:=w.heap.size+1+1+1+1) yU (by rw[mZ.out,d9.out])
  rw[<-yU]
  clear yU
  have Qb:=uE z0
  have mX:=hide rq
  clear rq
  have L5:=lt_of_cell p0
  have jk:=hide (aa (aa ut.out mW.out) mX.out)
  have qD:=hide (aa mW.out mX.out)
  obtain ⟨⟨LR,g0,g1,g2,g3,g4,g5,g6,g7,g8,g9,g10,g11,g12,g13⟩,⟨L2,r0,r1,r2,r3⟩,L3,s0,s1,s2,s3⟩:=JC.out _ qD.out
  obtain ⟨L4,z0⟩:=Qb.out _ mX.out
  go_wp2
  all_goals (try (exfalso;go_light;simp_all;done))
  go_ret
  exact ⟨⟨_,rfl,102,[],rfl,(λargs W=>by go_simp),λW hW Ar nr cr row hrow hfit=>by
   have h1:=MI W (.slice Ar nr cr)
   rw[<-FB.out,(HV.out row).2.2.2.2.2 (by simpa using q0) (by simpa using q1) (by simpa using q2) (by simpa using q3) (by simpa using q4)]
   exact h1⟩,jk.out⟩
section
variable (w:World)(x:Chk)(A:Option Addr)(n c:Nat)(hn:In w A n c x.cols)(A':Option Addr)(n' c':Nat)(hn':In w A' n' c' x.ocols)(aY:Option Addr)(n'' c'':Nat)(hq:In w aY n'' c'' x.cond)(hw:Words w)(rn:ByteArray)(A1:Option Addr)(n1 c1:Nat)(cols:List Col)(hc:In w A1 n1 c1 cols)(Ak:Option Addr)(nk ck:Nat)(A3:Option Addr)(n3 c3:Nat)(rows:List Ent)(hr:In w A3 n3 c3 rows)(on:ByteArray)(A2:Option Addr)(n2 c2:Nat)(ocols:List Col)(ho:In w A2 n2 c2 ocols)(Al:Option Addr)(nl cl:Nat)(A4:Option Addr)(n4 c4:Nat)(orows:List Ent)(hor:In w A4 n4 c4 orows)(A5:Option Addr)(n5 c5:Nat)(zs:List Zone)(hz:In w A5 n5 c5 zs)
include w x A n c hn A' n' c' hn' aY n'' c'' hq hw rn A1 n1 c1 cols hc Ak nk ck A3 n3 c3 rows hr on A2 n2 c2 ocols ho Al nl cl A4 n4 c4 orows hor A5 n5 c5 zs hz
theorem Fj (hb0:n<=4096)(hb1:n'<=4096)(hb2:n1<=4096)(hb3:n2<=4096)(hE:aI x cols ocols rows orows zs=0)(q0:(x.kind==0)=false)(q1:(x.kind==1)=true):
  Calls Tryz.prog 62 #[.agg (ax x A n c A' n' c' aY n'' c'').toArray,.agg #[.string rn,.slice A1 n1 c1,.slice Ak nk ck,.slice A3 n3 c3],.agg #[.string on,.slice A2 n2 c2,.slice Al nl cl,.slice A4 n4 c4],.slice A5 n5 c5] w
   λe w'=>(∃fv,e=.returned fv/\ul w' fv cols (cO x cols ocols rows orows zs))/\Below w.heap.size w w':=by
 obtain ⟨hE1,hE2,kM⟩:=dR hE
 obtain ⟨⟨k0,k6⟩,hcz,dN⟩:=fw hE1
 obtain ⟨hbz,htz,hrz⟩:=bA hE2
 obtain ⟨hrl,hrc⟩:=eQ hbz htz
 have hrl':n3<=4096:=by rw[<-hr.len];exact hrl
 have HV:=hide λrow=>iF (x:=x) (rc:=cols) (oc:=ocols) (rr:=rows) (orr:=orows) (zs:=zs) (row:=row)
 obtain ⟨VB,fB⟩: ∃V,cO x cols ocols rows orows zs=V:=⟨_,rfl⟩
 rw[fB]
 have FB:=hide fB
 have Kk:=hide kM
 have PE:=hide hcz
 have mG:=hide dN
 have Ca:=hide hrc
 have Kz:=hide hrz
 clear hE hE1 hE2 kM hcz dN hbz htz hrl hrc hrz fB k0 k6
 simp only[ax]
 go_enter Tryz.func62,Tryz.ntmps62
 have HN:=hide hn
 clear hn
 have eT:=hide hn'
 clear hn'
 have HQ:=hide hq
 clear hq
 have HW:=hide hw
 clear hw
 have HC:=hide hc
 clear hc
 have HO:=hide ho
 clear ho
 have HZ:=hide hz
 clear hz
 have HR:=hide hr
 clear hr
 have kr:=hide hor
 clear hor
 go_wp2_with fail
 obtain ⟨W3,hW3,d9,bR,o1⟩:=dm w x A n c A' n' c' aY n'' c'' rn A1 n1 c1 Ak nk ck A3 n3 c3 on A2 n2 c2 Al nl cl A4 n4 c4
 rw[<-hW3]
 clear hW3
 have fK:=hide bR
 clear bR
 obtain ⟨W4,jb⟩: ∃W,W=W3.alloc (.cells #[.slice A5 n5 c5] 65):=⟨_,rfl⟩
 obtain ⟨fI,mZ,z0⟩:=lT (b:=w.heap.size+1+1+1) jb (by rw[d9.out])
 rw[<-jb]
 clear jb
 have oO:=hide fI
 clear fI
 have L4:=lt_of_cell z0
 obtain ⟨FV,yT⟩: ∃v,v=Value.func (.func 93) #[] #[.pointer (some ⟨w.heap.size+1,0,none⟩),.pointer (some ⟨w.heap.size,0,none⟩)]:=⟨_,rfl⟩
 rw[<-yT]
 have NF:=hide yT
 clear yT
 obtain ⟨W5,yU⟩: ∃W,W=W4.alloc (.cells #[FV] 110):=⟨_,rfl⟩
 obtain ⟨rq,Lb,p0⟩:=lT (b:=w.heap.size+1+1+1+1) yU (by rw[mZ.out,d9.out])
 rw[<-yU]
 clear yU
 have o4:=uE z0
 have nZ:=hide rq
 clear rq
 have L5:=lt_of_cell p0
 obtain ⟨hi,hpos,Ih,hoth⟩:=mG.out (by have h9:x.kind=1:=(by simpa using q1);rw[iE,h9];rfl)
 have HI:=hide hi
 clear hi
 have xA:=hide (aa oO.out nZ.out)
 obtain ⟨⟨LR,g0,g1,g2,g3,g4,g5,g6,g7,g8,g9,g10,g11,g12,g13⟩,⟨L2,r0,r1,r2,r3⟩,L3,s0,s1,s2,s3⟩:=o1.out _ xA.out
 have Py:=hide (aa (aa fK.out oO.out) nZ.out)
 have HOW:=hide (OwnAt.mk (names:=x.cols) (cols:=cols) (p0.trans (congrArg some NF.out)) r1 g3 (HC.out.below Py.out) (HN.out.below Py.out))
 have jk:=hide (aa (aa fK.out oO.out) nZ.out)
 obtain ⟨L4,z0⟩:=o4.out _ nZ.out
 go_wp2
 all_goals (try (exfalso;go_light;simp_all;done))
 go_ret
 exact ⟨⟨_,rfl,97,[.pointer (some ⟨w.heap.size+1+1+1+1,0,none⟩)],rfl,(λargs W=>by go_simp),λW hW Ar nr cr row hrow hfit=>by
  have h1:=MK W _ _ _ A1 n1 c1 cols A n c x.cols (HOW.out.below hW) hb2 hb0 Ar nr cr row hrow
  rw[<-FB.out,(HV.out row).2.1 (by simpa using q1)]
  exact h1⟩,jk.out⟩
theorem Fp (hb0:n<=4096)(hb1:n'<=4096)(hb2:n1<=4096)(hb3:n2<=4096)(hE:aI x cols ocols rows orows zs=0)(q0:(x.kind==0)=false)(q1:(x.kind==1)=false)(q2:(x.kind==2)=true):
  Calls Tryz.prog 62 #[.agg (ax x A n c A' n' c' aY n'' c'').toArray,.agg #[.string rn,.slice A1 n1 c1,.slice Ak nk ck,.slice A3 n3 c3],.agg #[.string on,.slice A2 n2 c2,.slice Al nl cl,.slice A4 n4 c4],.slice A5 n5 c5] w
   λe w'=>(∃fv,e=.returned fv/\ul w' fv cols (cO x cols ocols rows orows zs))/\Below w.heap.size w w':=by
 obtain ⟨hE1,hE2,kM⟩:=dR hE
 obtain ⟨⟨k0,k6⟩,hcz,dN⟩:=fw hE1
 obtain ⟨hbz,htz,hrz⟩:=bA hE2
 obtain ⟨hrl,hrc⟩:=eQ hbz htz
 have hrl':n3<=4096:=by rw[<-hr.len];exact hrl
 have HV:=hide λrow=>iF (x:=x) (rc:=cols) (oc:=ocols) (rr:=rows) (orr:=orows) (zs:=zs) (row:=row)
 obtain ⟨VB,fB⟩: ∃V,cO x cols ocols rows orows zs=V:=⟨_,rfl⟩
 rw[fB]
 have FB:=hide fB
 have Kk:=hide kM
 have PE:=hide hcz
 have mG:=hide dN
 have Ca:=hide hrc
 have Kz:=hide hrz
 clear hE hE1 hE2 kM hcz dN hbz htz hrl hrc hrz fB k0 k6
 simp only[ax]
 go_enter Tryz.func62,Tryz.ntmps62
 have HN:=hide hn
 clear hn
 have eT:=hide hn'
 clear hn'
 have HQ:=hide hq
 clear hq
 have HW:=hide hw
 clear hw
 have HC:=hide hc
 clear hc
 have HO:=hide ho
 clear ho
 have HZ:=hide hz
 clear hz
 have HR:=hide hr
 clear hr
 have kr:=hide hor
 clear hor
 go_wp2_with fail
 obtain ⟨W3,hW3,d9,bR,o8⟩:=dm w x A n c A' n' c' aY n'' c'' rn A1 n1 c1 Ak nk ck A3 n3 c3 on A2 n2 c2 Al nl cl A4 n4 c4
 rw[<-hW3]
 clear hW3
 have uy:=hide bR
 clear bR
 obtain ⟨W4,jb⟩: ∃W,W=W3.alloc (.cells #[.slice A5 n5 c5] 65):=⟨_,rfl⟩
 obtain ⟨fI,mZ,z0⟩:=lT (b:=w.heap.size+1+1+1) jb (by rw[d9.out])
 rw[<-jb]
 clear jb
 have fZ:=hide fI
 clear fI
 have L4:=lt_of_cell z0
 obtain ⟨FV,yT⟩: ∃v,v=Value.func (.func 93) #[] #[.pointer (some ⟨w.heap.size+1,0,none⟩),.pointer (some ⟨w.heap.size,0,none⟩)]:=⟨_,rfl⟩
 rw[<-yT]
 have NF:=hide yT
 clear yT
 obtain ⟨W5,yU⟩: ∃W,W=W4.alloc (.cells #[FV] 110):=⟨_,rfl⟩
 obtain ⟨rq,Lb,p0⟩:=lT (b:=w.heap.size+1+1+1+1) yU (by rw[mZ.out,d9.out])
 rw[<-yU]
 clear yU
 have EN:=uE z0
 have ji:=hide rq
 clear rq
 have L5:=lt_of_cell p0
 obtain ⟨hi,hpos,Ih,hoth⟩:=mG.out (by have h9:x.kind=2:=(by simpa using q2);rw[iE,h9];rfl)
 have HI:=hide hi
 clear hi
 have Ka:=hide (aa fZ.out ji.out)
 obtain ⟨⟨LR,g0,g1,g2,g3,g4,g5,g6,g7,g8,g9,g10,g11,g12,g13⟩,⟨L2,r0,r1,r2,r3⟩,L3,s0,s1,s2,s3⟩:=o8.out _ Ka.out
 have sZ:=hide (aa (aa uy.out fZ.out) ji.out)
 have HOW:=hide (OwnAt.mk (names:=x.cols) (cols:=cols) (p0.trans (congrArg some NF.out)) r1 g3 (HC.out.below sZ.out) (HN.out.below sZ.out))
 have G6:=hide g6
 have G7:=hide g7
 have GL:=hide LR
 have Kq:=hide hpos
 clear hpos Ih hoth
 have jk:=hide (aa (aa uy.out fZ.out) ji.out)
 obtain ⟨L4,z0⟩:=EN.out _ ji.out
 go_wp2
 all_goals (try (exfalso;go_light;simp_all;done))
 go_ret
 exact ⟨⟨_,rfl,99,[.pointer (some ⟨w.heap.size+1+1+1+1,0,none⟩),.pointer (some ⟨w.heap.size,0,none⟩)],rfl,(λargs W=>by go_simp),λW hW Ar nr cr row hrow hfit=>by
  have hp:=(su PE.out HI.out hfit).1
  have hpos:=Kq.out
  have h1:=JO W _ _ _ A1 n1 c1 cols A n c x.cols (HOW.out.below hW) hb2 hb0 Ar nr cr row hrow x.low x.high (ah hW GL.out G6.out) (ah hW GL.out G7.out) (by omega)
  rw[<-FB.out,(HV.out row).2.2.1 (by simpa using q2),GM]
  exact h1⟩,jk.out⟩
theorem Fq (hb0:n<=4096)(hb1:n'<=4096)(hb2:n1<=4096)(hb3:n2<=4096)(hE:aI x cols ocols rows orows zs=0)(q0:(x.kind==0)=false)(q1:(x.kind==1)=false)(q2:(x.kind==2)=false)(q3:(x.kind==3)=true):
  Calls Tryz.prog 62 #[.agg (ax x A n c A' n' c' aY n'' c'').toArray,.agg #[.string rn,.slice A1 n1 c1,.slice Ak nk ck,.slice A3 n3 c3],.agg #[.string on,.slice A2 n2 c2,.slice Al nl cl,.slice A4 n4 c4],.slice A5 n5 c5] w
   λe w'=>(∃fv,e=.returned fv/\ul w' fv cols (cO x cols ocols rows orows zs))/\Below w.heap.size w w':=by
 obtain ⟨hE1,hE2,kM⟩:=dR hE
 obtain ⟨⟨k0,k6⟩,hcz,dN⟩:=fw hE1
 obtain ⟨hbz,htz,hrz⟩:=bA hE2
 obtain ⟨hrl,hrc⟩:=eQ hbz htz
 have hrl':n3<=4096:=by rw[<-hr.len];exact hrl
 have HV:=hide λrow=>iF (x:=x) (rc:=cols) (oc:=ocols) (rr:=rows) (orr:=orows) (zs:=zs) (row:=row)
 obtain ⟨VB,fB⟩: ∃V,cO x cols ocols rows orows zs=V:=⟨_,rfl⟩
 rw[fB]
 have FB:=hide fB
 have Kk:=hide kM
 have PE:=hide hcz
 have mG:=hide dN
 have Ca:=hide hrc
 have Kz:=hide hrz
 clear hE hE1 hE2 kM hcz dN hbz htz hrl hrc hrz fB k0 k6
 simp only[ax]
 go_enter Tryz.func62,Tryz.ntmps62
 have HN:=hide hn
 clear hn
 have eT:=hide hn'
 clear hn'
 have HQ:=hide hq
 clear hq
 have HW:=hide hw
 clear hw
 have HC:=hide hc
 clear hc
 have HO:=hide ho
 clear ho
 have HZ:=hide hz
 clear hz
 have HR:=hide hr
 clear hr
 have kr:=hide hor
 clear hor
 go_wp2_with fail
 obtain ⟨W3,hW3,d9,bR,Qb⟩:=dm w x A n c A' n' c' aY n'' c'' rn A1 n1 c1 Ak nk ck A3 n3 c3 on A2 n2 c2 Al nl cl A4 n4 c4
 rw[<-hW3]
 clear hW3
 have mX:=hide bR
 clear bR
 obtain ⟨W4,jb⟩: ∃W,W=W3.alloc (.cells #[.slice A5 n5 c5] 65):=⟨_,rfl⟩
 obtain ⟨fI,mZ,z0⟩:=lT (b:=w.heap.size+1+1+1) jb (by rw[d9.out])
 rw[<-jb]
 clear jb
 have mY:=hide fI
 clear fI
 have L4:=lt_of_cell z0
 obtain ⟨FV,yT⟩: ∃v,v=Value.func (.func 93) #[] #[.pointer (some ⟨w.heap.size+1,0,none⟩),.pointer (some ⟨w.heap.size,0,none⟩)]:=⟨_,rfl⟩
 rw[<-yT]
 have NF:=hide yT
 clear yT
 obtain ⟨W5,yU⟩: ∃W,W=W4.alloc (.cells #[FV] 110):=⟨_,rfl⟩
 obtain ⟨rq,Lb,p0⟩:=lT (b:=w.heap.size+1+1+1+1) yU (by rw[mZ.out,d9.out])
 rw[<-yU]
 clear yU
 have UN:=uE z0
 have gp:=hide rq
 clear rq
 have L5:=lt_of_cell p0
 obtain ⟨hi,hpos,Ih,hoth⟩:=mG.out (by have h9:x.kind=3:=(by simpa using q3);rw[iE,h9];rfl)
 have HI:=hide hi
 clear hi
 have hk3:x.kind=3:=by simpa using q3
 obtain ⟨hoc,Yw,hlo⟩:=hoth (by rw[iL,hk3];rfl)
 have kM:=Kk.out (by rw[iL,hk3];rfl)
 obtain ⟨hbz,htz,hrz⟩:=bA kM
 obtain ⟨hrl,hrc⟩:=eQ hbz htz
 have hrl2:n4<=4096:=by rw[<-kr.out.len];exact hrl
 have FL:=hide hoc
 have Y8:=hide Yw
 have WC:=hide hrz
 have SX:=hide hrc
 clear hpos Ih hoth hoc Yw hlo kM hbz htz hrz hrl hrc hk3
 have V4:=hide (aa mY.out gp.out)
 obtain ⟨⟨LR,g0,g1,g2,g3,g4,g5,g6,g7,g8,g9,g10,g11,g12,g13⟩,⟨L2,r0,r1,r2,r3⟩,L3,s0,s1,s2,s3⟩:=Qb.out _ V4.out
 obtain ⟨L4,z0⟩:=UN.out _ gp.out
 go_wp2_with fail
 have xy:=hide (aa (aa mX.out mY.out) gp.out)
 refine (wM _ on A2 n2 c2 ocols (HO.out.below xy.out) Al nl cl A4 n4 c4 orows (kr.out.below xy.out) A' n' c' x.ocols (eT.out.below xy.out) hb3 hb1 hrl2 SX.out).mono ?_
 rintro e RN ⟨⟨b,rfl,Nn,hS⟩,L8⟩
 have Sg:=lX (jF g0 g1 g2 g3 g4 g5 g6 g7 g8 g9 g10 g11 g12 g13) (lX (jI r0 r1 r2 r3) (lX (jI s0 s1 s2 s3) (lX (uE z0) (uE p0))))
 have il:=hide L8
 clear L8
 have HS:=hide hS
 clear hS
 obtain ⟨W7,Rk⟩: ∃W,W=RN.alloc (.cells #[.map (some b)] 132):=⟨_,rfl⟩
 have m0:W7.cell? ⟨RN.heap.size,0,none⟩=some (.map (some b)):=by rw[Rk];simp[go_sem]
 have dC:Below RN.heap.size RN W7:=by rw[Rk];exact af
 obtain ⟨⟨LR,g0,g1,g2,g3,g4,g5,g6,g7,g8,g9,g10,g11,g12,g13⟩,⟨L2,r0,r1,r2,r3⟩,⟨L3,s0,s1,s2,s3⟩,⟨L4,z0⟩,L5,p0⟩:=Sg.out _ il.out
 have nO:=hide (aa (aa (aa mX.out mY.out) gp.out) il.out)
 have HOW:=hide (OwnAt.mk (names:=x.cols) (cols:=cols) (p0.trans (congrArg some NF.out)) r1 g3 (HC.out.below nO.out) (HN.out.below nO.out))
 have IB:=hide m0
 have ik:=hide dC
 have jk:=hide (aa (aa (aa (aa mX.out mY.out) gp.out) il.out) dC)
 clear m0 dC
 go_wp2
 all_goals (try (exfalso;go_light;simp_all;done))
 rw[<-Rk]
 go_ret
 exact ⟨⟨_,rfl,100,[.pointer (some ⟨w.heap.size+1+1+1+1,0,none⟩),.pointer (some ⟨RN.heap.size,0,none⟩)],rfl,(λargs W=>by go_simp),λW hW Ar nr cr row hrow hfit=>by
  have h1:=JK W _ _ _ A1 n1 c1 cols A n c x.cols (HOW.out.below (aa ik.out hW)) hb2 hb0 Ar nr cr row hrow RN.heap.size b n4 (ah hW (lt_of_cell IB.out) IB.out) _ (HS.out.below (aa ik.out hW))
  obtain ⟨p1,p2,p3⟩:=su PE.out HI.out hfit
  rw[H9 FL.out Y8.out WC.out p2 p3,M4 (l:=sQ ocols x.ocols orows (aN cols x.cols row)) λy hy=>(SX.out y (List.mem_filter.1 hy).1).1]at h1
  rw[<-FB.out,(HV.out row).2.2.2.1 (by simpa using q3)]
  exact h1⟩,jk.out⟩
theorem Fs (hb0:n<=4096)(hb1:n'<=4096)(hb2:n1<=4096)(hb3:n2<=4096)(hE:aI x cols ocols rows orows zs=0)(q0:(x.kind==0)=false)(q1:(x.kind==1)=false)(q2:(x.kind==2)=false)(q3:(x.kind==3)=false)(q4:(x.kind==4)=true):
  Calls Tryz.prog 62 #[.agg (ax x A n c A' n' c' aY n'' c'').toArray,.agg #[.string rn,.slice A1 n1 c1,.slice Ak nk ck,.slice A3 n3 c3],.agg #[.string on,.slice A2 n2 c2,.slice Al nl cl,.slice A4 n4 c4],.slice A5 n5 c5] w
   λe w'=>(∃fv,e=.returned fv/\ul w' fv cols (cO x cols ocols rows orows zs))/\Below w.heap.size w w':=by
 obtain ⟨hE1,hE2,kM⟩:=dR hE
 obtain ⟨⟨k0,k6⟩,hcz,dN⟩:=fw hE1
 obtain ⟨hbz,htz,hrz⟩:=bA hE2
 obtain ⟨hrl,hrc⟩:=eQ hbz htz
 have hrl':n3<=4096:=by rw[<-hr.len];exact hrl
 have HV:=hide λrow=>iF (x:=x) (rc:=cols) (oc:=ocols) (rr:=rows) (orr:=orows) (zs:=zs) (row:=row)
 obtain ⟨VB,fB⟩: ∃V,cO x cols ocols rows orows zs=V:=⟨_,rfl⟩
 rw[fB]
 have FB:=hide fB
 have Kk:=hide kM
 have PE:=hide hcz
 have mG:=hide dN
 have Ca:=hide hrc
 have Kz:=hide hrz
 clear hE hE1 hE2 kM hcz dN hbz htz hrl hrc hrz fB k0 k6
 simp only[ax]
 go_enter Tryz.func62,Tryz.ntmps62
 have HN:=hide hn
 clear hn
 have eT:=hide hn'
 clear hn'
 have HQ:=hide hq
 clear hq
 have HW:=hide hw
 clear hw
 have HC:=hide hc
 clear hc
 have HO:=hide ho
 clear ho
 have HZ:=hide hz
 clear hz
 have HR:=hide hr
 clear hr
 have kr:=hide hor
 clear hor
 go_wp2_with fail
 obtain ⟨W3,hW3,d9,bR,XW⟩:=dm w x A n c A' n' c' aY n'' c'' rn A1 n1 c1 Ak nk ck A3 n3 c3 on A2 n2 c2 Al nl cl A4 n4 c4
 rw[<-hW3]
 clear hW3
 have nQ:=hide bR
 clear bR
 obtain ⟨W4,jb⟩: ∃W,W=W3.alloc (.cells #[.slice A5 n5 c5] 65):=⟨_,rfl⟩
 obtain ⟨fI,mZ,z0⟩:=lT (b:=w.heap.size+1+1+1) jb (by rw[d9.out])
 rw[<-jb]
 clear jb
 have uu:=hide fI
 clear fI
 have L4:=lt_of_cell z0
 obtain ⟨FV,yT⟩: ∃v,v=Value.func (.func 93) #[] #[.pointer (some ⟨w.heap.size+1,0,none⟩),.pointer (some ⟨w.heap.size,0,none⟩)]:=⟨_,rfl⟩
 rw[<-yT]
 have NF:=hide yT
 clear yT
 obtain ⟨W5,yU⟩: ∃W,W=W4.alloc (.cells #[FV] 110):=⟨_,rfl⟩
 obtain ⟨rq,Lb,p0⟩:=lT (b:=w.heap.size+1+1+1+1) yU (by rw[mZ.out,d9.out])
 rw[<-yU]
 clear yU
 have XX:=uE z0
 have oV:=hide rq
 clear rq
 have L5:=lt_of_cell p0
 have qo:=hide (aa uu.out oV.out)
 obtain ⟨⟨LR,g0,g1,g2,g3,g4,g5,g6,g7,g8,g9,g10,g11,g12,g13⟩,⟨L2,r0,r1,r2,r3⟩,L3,s0,s1,s2,s3⟩:=XW.out _ qo.out
 have YN:=hide (ChkAt.mk g0 g1 g2 g3 g4 g5 g6 g7 g8 g9 g10 g11 g12 g13)
 have R1:=hide r1
 have Zx:=hide L2
 obtain ⟨L4,z0⟩:=XX.out _ oV.out
 have Z0:=hide z0
 have LZ:=hide L4
 have jk:=hide (aa (aa nQ.out uu.out) oV.out)
 go_wp2
 all_goals (try (exfalso;go_light;simp_all;done))
 go_ret
 exact ⟨⟨_,rfl,101,[.pointer (some ⟨w.heap.size,0,none⟩),.pointer (some ⟨w.heap.size+1,0,none⟩),.pointer (some ⟨w.heap.size+1+1+1,0,none⟩)],rfl,(λargs W=>by go_simp),λW hW Ar nr cr row hrow hfit=>by
  have Iu:=hide (aa (aa nQ.out uu.out) oV.out)
  have h1:=Lh W _ _ _ x A n c A' n' c' aY n'' c'' (YN.out.below hW) A1 n1 c1 cols (ah hW Zx.out R1.out) A5 n5 c5 zs (ah hW LZ.out Z0.out) ((HQ.out.below Iu.out).below hW) ((HW.out.below Iu.out).below hW) ((HC.out.below Iu.out).below hW) ((HZ.out.below Iu.out).below hW) Ar nr cr row hrow
  rw[<-FB.out,(HV.out row).2.2.2.2.1 (by simpa using q4)]
  exact h1⟩,jk.out⟩
theorem Dp (hb0:n<=4096)(hb1:n'<=4096)(hb2:n1<=4096)(hb3:n2<=4096)(hE:aI x cols ocols rows orows zs=0):
  Calls Tryz.prog 62 #[.agg (ax x A n c A' n' c' aY n'' c'').toArray,.agg #[.string rn,.slice A1 n1 c1,.slice Ak nk ck,.slice A3 n3 c3],.agg #[.string on,.slice A2 n2 c2,.slice Al nl cl,.slice A4 n4 c4],.slice A5 n5 c5] w
   λe w'=>(∃fv,e=.returned fv/\ul w' fv cols (cO x cols ocols rows orows zs))/\Below w.heap.size w w':=by
 have hK:((x.kind==0)=true)\/((x.kind==0)=false/\(x.kind==1)=true)\/((x.kind==0)=false/\(x.kind==1)=false/\(x.kind==2)=true)\/((x.kind==0)=false/\(x.kind==1)=false/\(x.kind==2)=false/\(x.kind==3)=true)
   \/((x.kind==0)=false/\(x.kind==1)=false/\(x.kind==2)=false/\(x.kind==3)=false/\(x.kind==4)=true)\/((x.kind==0)=false/\(x.kind==1)=false/\(x.kind==2)=false/\(x.kind==3)=false/\(x.kind==4)=false):=by
  cases h0:(x.kind==0) <;> cases h1:(x.kind==1) <;> cases h2:(x.kind==2) <;> cases h3:(x.kind==3) <;> cases h4:(x.kind==4) <;> simp
 rcases hK with q0|⟨q0,q1⟩|⟨q0,q1,q2⟩|⟨q0,q1,q2,q3⟩|⟨q0,q1,q2,q3,q4⟩|⟨q0,q1,q2,q3,q4⟩
 ·exact ug w x A n c hn A' n' c' hn' aY n'' c'' hq hw rn A1 n1 c1 cols hc Ak nk ck A3 n3 c3 rows hr on A2 n2 c2 ocols ho Al nl cl A4 n4 c4 orows hor A5 n5 c5 zs hz hb0 hb1 hb2 hb3 hE (.inl q0)
 ·exact Fj w x A n c hn A' n' c' hn' aY n'' c'' hq hw rn A1 n1 c1 cols hc Ak nk ck A3 n3 c3 rows hr on A2 n2 c2 ocols ho Al nl cl A4 n4 c4 orows hor A5 n5 c5 zs hz hb0 hb1 hb2 hb3 hE q0 q1
 ·exact Fp w x A n c hn A' n' c' hn' aY n'' c'' hq hw rn A1 n1 c1 cols hc Ak nk ck A3 n3 c3 rows hr on A2 n2 c2 ocols ho Al nl cl A4 n4 c4 orows hor A5 n5 c5 zs hz hb0 hb1 hb2 hb3 hE q0 q1 q2
 ·exact Fq w x A n c hn A' n' c' hn' aY n'' c'' hq hw rn A1 n1 c1 cols hc Ak nk ck A3 n3 c3 rows hr on A2 n2 c2 ocols ho Al nl cl A4 n4 c4 orows hor A5 n5 c5 zs hz hb0 hb1 hb2 hb3 hE q0 q1 q2 q3
 ·exact Fs w x A n c hn A' n' c' hn' aY n'' c'' hq hw rn A1 n1 c1 cols hc Ak nk ck A3 n3 c3 rows hr on A2 n2 c2 ocols ho Al nl cl A4 n4 c4 orows hor A5 n5 c5 zs hz hb0 hb1 hb2 hb3 hE q0 q1 q2 q3 q4
 ·exact ug w x A n c hn A' n' c' hn' aY n'' c'' hq hw rn A1 n1 c1 cols hc Ak nk ck A3 n3 c3 rows hr on A2 n2 c2 ocols ho Al nl cl A4 n4 c4 orows hor A5 n5 c5 zs hz hb0 hb1 hb2 hb3 hE (.inr ⟨q0,q1,q2,q3,q4⟩)
end
end Go.Proofs.YtggejcekmehocaaGreatDoor
