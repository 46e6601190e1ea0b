/-
  check.Judge. (Printed by gen_jdg.py.)
-/
import Derived.Test.YtggejcekmehocaaGreatDoorGaz
import Derived.Test.YtggejcekmehocaaGreatDoorAppA
import Derived.Test.YtggejcekmehocaaGreatDoorGal
namespace Go.Proofs.YtggejcekmehocaaGreatDoor
set_option maxHeartbeats 4000000
set_option maxRecDepth 100000
open Go.RowKit Go.Maps
set_option linter.unusedSimpArgs false
set_option linter.unusedVariables false
structure Ver where
 name:ByteArray
 bad:Bool
 rows:Int
 part:Int
 whole:Int
def Ver.cells (v:Ver):List Value:=[.string v.name,.bool v.bad,.int .i64 v.rows,.int .i64 v.part,.int .i64 v.whole]
def mQ:Ver:=⟨⟨#[]⟩,false,0,0,0⟩
def bM (cols:List Col)(names:List ByteArray):Nat:=(index cols (names.getD 0 default)).toNat
def lN (c:Chk)(rc oc:List Col)(rr orr:List Ent)(zs:List Zone):Ver:=
 if c.kind=5 then ⟨c.name,!dX (aH (rr.filter λy=>bB c.cond rc y.row zs)) (aH rr) c.ln c.ld c.mn c.md,0,aH (rr.filter λy=>bB c.cond rc y.row zs),aH rr⟩
 else if c.kind=6 then ⟨c.name,aK (bM rc c.cols) rr != aK (bM oc c.ocols) orr,0,aK (bM rc c.cols) rr,aK (bM oc c.ocols) orr⟩
 else ⟨c.name,decide (0<aH (bG c rc oc rr orr zs).2),aH (bG c rc oc rr orr zs).2,0,0⟩
def di (c:Chk)(rc oc:List Col)(rr orr:List Ent)(zs:List Zone):Int×Ver:=
 if aI c rc oc rr orr zs≠0 then (aI c rc oc rr orr zs,mQ) else (0,lN c rc oc rr orr zs)
theorem lJ {w:World}{g:Nat}{u0 u1 u2 u3 u4 v0 v1 v2 v3 v4:Value}(h0:w.cell? ⟨g,0,none⟩=some u0)(h1:w.cell? ⟨g,1,none⟩=some u1)(h2:w.cell? ⟨g,2,none⟩=some u2)(h3:w.cell? ⟨g,3,none⟩=some u3)(h4:w.cell? ⟨g,4,none⟩=some u4):
  ∀j v,[v0,v1,v2,v3,v4][j]?=some v->(((((w.setCell ⟨g,0,none⟩ v0).setCell ⟨g,1,none⟩ v1).setCell ⟨g,2,none⟩ v2).setCell ⟨g,3,none⟩ v3).setCell ⟨g,4,none⟩ v4).cell? ⟨g,j,none⟩=some v:=by
 intro j v hv
 match j,hv with
 | 0,hv=>simp at hv;subst hv;exact ae (ae (ae (ae (bU h0) (.inr (by omega))) (.inr (by omega))) (.inr (by omega))) (.inr (by omega))
 | 1,hv=>simp at hv;subst hv;exact ae (ae (ae (bU (ae h1 (.inr (by omega)))) (.inr (by omega))) (.inr (by omega))) (.inr (by omega))
 | 2,hv=>simp at hv;subst hv;exact ae (ae (bU (ae (ae h2 (.inr (by omega))) (.inr (by omega)))) (.inr (by omega))) (.inr (by omega))
 | 3,hv=>simp at hv;subst hv;exact ae (bU (ae (ae (ae h3 (.inr (by omega))) (.inr (by omega))) (.inr (by omega)))) (.inr (by omega))
 | 4,hv=>simp at hv;subst hv;exact bU (ae (ae (ae (ae h4 (.inr (by omega))) (.inr (by omega))) (.inr (by omega))) (.inr (by omega)))
structure VerAt (w:World) (g:Nat) (v:Ver):Prop where
 c0:w.cell? ⟨g,0,none⟩=some (.string v.name)
 c1:w.cell? ⟨g,1,none⟩=some (.bool v.bad)
 c2:w.cell? ⟨g,2,none⟩=some (.int .i64 v.rows)
 c3:w.cell? ⟨g,3,none⟩=some (.int .i64 v.part)
 c4:w.cell? ⟨g,4,none⟩=some (.int .i64 v.whole)
 fz: ∀o,w.frozen? ⟨g,o,none⟩=false
theorem VerAt.lt {w:World}{g:Nat}{v:Ver}(h:VerAt w g v):g<w.heap.size:=lt_of_cell h.c0
theorem VerAt.below {w w':World}{g:Nat}{v:Ver}(h:VerAt w g v)(hb:Below w.heap.size w w'):VerAt w' g v:=
 ⟨ah hb h.lt h.c0,ah hb h.lt h.c1,ah hb h.lt h.c2,ah hb h.lt h.c3,ah hb h.lt h.c4,λo=>((ai hb).2 g o h.lt).trans (h.fz o)⟩
theorem kS {w:World}{g:Nat}(h: ∀o,w.frozen? ⟨g,o,none⟩=false)(b o:Nat)(u:Value): ∀o',(w.setCell ⟨b,o,none⟩ u).frozen? ⟨g,o',none⟩=false:=λo'=>by
 rw[World.frozen?_setCell];exact h o'
theorem VerAt.set3 {w:World}{g:Nat}{v:Ver}(h:VerAt w g v)(p:Int):VerAt (w.setCell ⟨g,3,none⟩ (.int .i64 p)) g {v with part:=p}:=
 ⟨ae h.c0 (.inr (by omega)),ae h.c1 (.inr (by omega)),ae h.c2 (.inr (by omega)),bU h.c3,ae h.c4 (.inr (by omega)),kS h.fz _ _ _⟩
theorem VerAt.set4 {w:World}{g:Nat}{v:Ver}(h:VerAt w g v)(p:Int):VerAt (w.setCell ⟨g,4,none⟩ (.int .i64 p)) g {v with whole:=p}:=
 ⟨ae h.c0 (.inr (by omega)),ae h.c1 (.inr (by omega)),ae h.c2 (.inr (by omega)),ae h.c3 (.inr (by omega)),bU h.c4,kS h.fz _ _ _⟩
theorem pU {α:Type}[Rep α]{e:TypeId}{B:Nat}{O:Nat->Prop}{T:List TypeId}{w:World}{v:Value}{xs:List α}(h:OL e B O T w v xs): ∃A c,v=.slice A xs.length c/\In w A xs.length c xs:=h.inn
section
variable (w:World)(x:Chk)(A:Option Addr)(n c:Nat)(hn:In w A n c x.cols)(A':Option Addr)(n' c':Nat)(hn':In w A' n' c' x.ocols)(aY:Option Addr)(n'' c'':Nat)(hq:In w aY n'' c'' x.cond)(hw:Words w)(rn:ByteArray)(A1:Option Addr)(n1 c1:Nat)(cols:List Col)(hc:In w A1 n1 c1 cols)(Ak:Option Addr)(nk ck:Nat)(A3:Option Addr)(n3 c3:Nat)(rows:List Ent)(hr:In w A3 n3 c3 rows)(on:ByteArray)(A2:Option Addr)(n2 c2:Nat)(ocols:List Col)(ho:In w A2 n2 c2 ocols)(Al:Option Addr)(nl cl:Nat)(A4:Option Addr)(n4 c4:Nat)(orows:List Ent)(hor:In w A4 n4 c4 orows)(A5:Option Addr)(n5 c5:Nat)(zs:List Zone)(hz:In w A5 n5 c5 zs)(hb0:n<=4096)(hb1:n'<=4096)(hb2:n1<=4096)(hb3:n2<=4096)
include w x A n c hn A' n' c' hn' aY n'' c'' hq hw rn A1 n1 c1 cols hc Ak nk ck A3 n3 c3 rows hr on A2 n2 c2 ocols ho Al nl cl A4 n4 c4 orows hor A5 n5 c5 zs hz hb0 hb1 hb2 hb3
theorem Ju (E:Int)(hE:aI x cols ocols rows orows zs=E)(hE0:¬E=0):
  Calls Tryz.prog 30 #[.agg (ax x A n c A' n' c' aY n'' c'').toArray,.agg #[.string rn,.slice A1 n1 c1,.slice Ak nk ck,.slice A3 n3 c3],.agg #[.string on,.slice A2 n2 c2,.slice Al nl cl,.slice A4 n4 c4],.slice A5 n5 c5] w
   λe w'=>e=.returned (.tuple #[.agg (di x cols ocols rows orows zs).2.cells.toArray,.int .i64 (di x cols ocols rows orows zs).1])/\Below w.heap.size w w':=by
 have qF:=hide λW hn hn' hq hw hc hr ho hor hz=>kH W x A n c hn A' n' c' hn' aY n'' c'' hq hw rn A1 n1 c1 cols hc Ak nk ck A3 n3 c3 rows hr on A2 n2 c2 ocols ho Al nl cl A4 n4 c4 orows hor A5 n5 c5 zs hz hb0 hb1 hb2 hb3
 have HD:=hide (show di x cols ocols rows orows zs=if aI x cols ocols rows orows zs≠0 then (aI x cols ocols rows orows zs,mQ) else (0,lN x cols ocols rows orows zs) from rfl)
 have rW:=hide (show (bG x cols ocols rows orows zs).1=aI x cols ocols rows orows zs from by rw[bG];split <;> simp_all)
 have uk:=hide (show lN x cols ocols rows orows zs=if x.kind=5 then ⟨x.name,!dX (aH (rows.filter λy=>bB x.cond cols y.row zs)) (aH rows) x.ln x.ld x.mn x.md,0,aH (rows.filter λy=>bB x.cond cols y.row zs),aH rows⟩
  else if x.kind=6 then ⟨x.name,aK (bM cols x.cols) rows != aK (bM ocols x.ocols) orows,0,aK (bM cols x.cols) rows,aK (bM ocols x.ocols) orows⟩
  else ⟨x.name,decide (0<aH (bG x cols ocols rows orows zs).2),aH (bG x cols ocols rows orows zs).2,0,0⟩ from rfl)
 obtain ⟨J,hJ⟩: ∃J,di x cols ocols rows orows zs=J:=⟨_,rfl⟩
 obtain ⟨VR,tN⟩: ∃J,lN x cols ocols rows orows zs=J:=⟨_,rfl⟩
 rw[hJ,tN]at HD
 rw[tN]at uk
 rw[hJ]
 obtain ⟨VL,qP⟩: ∃l,(bG x cols ocols rows orows zs).2=l:=⟨_,rfl⟩
 rw[qP]at uk qF
 have Dx:=hide qP
 clear hJ tN qP
 rw[hE]at HD rW
 clear hE
 simp only[ax]at qF⊢
 go_enter Tryz.func30,Tryz.ntmps30
 have HN:=hide hn
 clear hn
 have eT:=hide hn'
 clear hn'
 have HQ:=hide hq
 clear hq
 have HW:=hide hw
 clear hw
 have HC:=hide hc
 clear hc
 have HO:=hide ho
 clear ho
 have HZ:=hide hz
 clear hz
 have HR:=hide hr
 clear hr
 have kr:=hide hor
 clear hor
 go_wp2_with fail
 obtain ⟨W3,hW3,d9,bR,o1⟩:=dm w x A n c A' n' c' aY n'' c'' rn A1 n1 c1 Ak nk ck A3 n3 c3 on A2 n2 c2 Al nl cl A4 n4 c4
 rw[<-hW3]
 clear hW3
 have fK:=hide bR
 clear bR
 obtain ⟨W4,jb⟩: ∃W,W=W3.alloc (.cells #[.string ⟨#[]⟩,.bool false,.int .i64 0,.int .i64 0,.int .i64 0] 68):=⟨_,rfl⟩
 obtain ⟨fI,mZ,z0,z1,z2,z3,z4⟩:=ky (b:=w.heap.size+1+1+1) jb (by rw[d9.out])
 have fM:Hid (bH W4 (w.heap.size+1+1+1) 68 5):=hide (by rw[<-d9.out,jb];exact bH.made _ _ _ _ rfl)
 rw[<-jb]
 clear jb
 have oO:=hide fI
 clear fI
 have L4:=lt_of_cell z0
 obtain ⟨⟨LR,g0,g1,g2,g3,g4,g5,g6,g7,g8,g9,g10,g11,g12,g13⟩,⟨L2,r0,r1,r2,r3⟩,L3,s0,s1,s2,s3⟩:=o1.out _ oO.out
 go_wp2_with fail
 have Bg:=hide (aa fK.out oO.out)
 refine (qF.out _ (HN.out.below Bg.out) (eT.out.below Bg.out) (HQ.out.below Bg.out) (HW.out.below Bg.out) (HC.out.below Bg.out) (HR.out.below Bg.out) (HO.out.below Bg.out) (kr.out.below Bg.out) (HZ.out.below Bg.out)).mono ?_
 rintro e w4 ⟨⟨bv,rfl,hol⟩,hb4⟩
 have o6:=lX (jF g0 g1 g2 g3 g4 g5 g6 g7 g8 g9 g10 g11 g12 g13) (lX (jI r0 r1 r2 r3) (lX (jI s0 s1 s2 s3) (xG z0 z1 z2 z3 z4)))
 have kv:=hide hb4
 clear hb4
 rw[rW.out]
 obtain ⟨Ab,cb,rfl,hib⟩:=pU hol
 obtain ⟨mb,hmb⟩: ∃m,VL.length=m:=⟨_,rfl⟩
 rw[hmb]at hib⊢
 clear hol hmb
 have IA:=hide hib
 clear hib
 have q0:(E != 0)=true:=by simpa using hE0
 have HJ:Hid (J=(E,mQ)):=hide (by rw[HD.out,if_pos hE0])
 obtain rfl:=HJ.out
 have y0:=(fM.out.below kv.out).frozen 0
 have y1:=(fM.out.below kv.out).frozen 1
 have y2:=(fM.out.below kv.out).frozen 2
 have y3:=(fM.out.below kv.out).frozen 3
 have y4:=(fM.out.below kv.out).frozen 4
 have nP:=hide (aa (aa fK.out oO.out) kv.out)
 obtain ⟨⟨LR,g0,g1,g2,g3,g4,g5,g6,g7,g8,g9,g10,g11,g12,g13⟩,⟨L2,r0,r1,r2,r3⟩,⟨L3,s0,s1,s2,s3⟩,L4,z0,z1,z2,z3,z4⟩:=o6.out _ kv.out
 go_wp2
 refine bodyPost_ret (v:=.tuple #[.agg mQ.cells.toArray,.int .i64 E]) (aA (cs:=mQ.cells) rfl _ _ _ _ _ rfl rfl (lJ z0 z1 z2 z3 z4) Tryz.underlying68 rfl (by kernel_rfl)) rfl ⟨rfl,((((nP.out.setCell (by simp;omega) _).setCell (by simp;omega) _).setCell (by simp;omega) _).setCell (by simp;omega) _).setCell (by simp;omega) _⟩
theorem Gh (hE:aI x cols ocols rows orows zs=0)(k5:(x.kind==5)=false)(k6:(x.kind==6)=false):
  Calls Tryz.prog 30 #[.agg (ax x A n c A' n' c' aY n'' c'').toArray,.agg #[.string rn,.slice A1 n1 c1,.slice Ak nk ck,.slice A3 n3 c3],.agg #[.string on,.slice A2 n2 c2,.slice Al nl cl,.slice A4 n4 c4],.slice A5 n5 c5] w
   λe w'=>e=.returned (.tuple #[.agg (di x cols ocols rows orows zs).2.cells.toArray,.int .i64 (di x cols ocols rows orows zs).1])/\Below w.heap.size w w':=by
 have qF:=hide λW hn hn' hq hw hc hr ho hor hz=>kH W x A n c hn A' n' c' hn' aY n'' c'' hq hw rn A1 n1 c1 cols hc Ak nk ck A3 n3 c3 rows hr on A2 n2 c2 ocols ho Al nl cl A4 n4 c4 orows hor A5 n5 c5 zs hz hb0 hb1 hb2 hb3
 have HD:=hide (show di x cols ocols rows orows zs=if aI x cols ocols rows orows zs≠0 then (aI x cols ocols rows orows zs,mQ) else (0,lN x cols ocols rows orows zs) from rfl)
 have rW:=hide (show (bG x cols ocols rows orows zs).1=aI x cols ocols rows orows zs from by rw[bG];split <;> simp_all)
 have uk:=hide (show lN x cols ocols rows orows zs=if x.kind=5 then ⟨x.name,!dX (aH (rows.filter λy=>bB x.cond cols y.row zs)) (aH rows) x.ln x.ld x.mn x.md,0,aH (rows.filter λy=>bB x.cond cols y.row zs),aH rows⟩
  else if x.kind=6 then ⟨x.name,aK (bM cols x.cols) rows != aK (bM ocols x.ocols) orows,0,aK (bM cols x.cols) rows,aK (bM ocols x.ocols) orows⟩
  else ⟨x.name,decide (0<aH (bG x cols ocols rows orows zs).2),aH (bG x cols ocols rows orows zs).2,0,0⟩ from rfl)
 obtain ⟨J,hJ⟩: ∃J,di x cols ocols rows orows zs=J:=⟨_,rfl⟩
 obtain ⟨VR,tN⟩: ∃J,lN x cols ocols rows orows zs=J:=⟨_,rfl⟩
 rw[hJ,tN]at HD
 rw[tN]at uk
 rw[hJ]
 obtain ⟨VL,qP⟩: ∃l,(bG x cols ocols rows orows zs).2=l:=⟨_,rfl⟩
 rw[qP]at uk qF
 have Dx:=hide qP
 clear hJ tN qP
 obtain ⟨hE1,hE2,kM⟩:=dR hE
 obtain ⟨hk,hcz,dN⟩:=fw hE1
 obtain ⟨hbz,htz,hrz⟩:=bA hE2
 have HJ:Hid (J=(0,VR)):=hide (by rw[HD.out,if_neg (by rw[hE];simp)])
 have Dy:Hid (VL=rows.filter λy=>cO x cols ocols rows orows zs y.row):=hide (by rw[<-Dx.out,bG,if_neg (by rw[hE];simp)])
 have ND:=hide hbz
 rw[hE]at rW
 clear hE hE1 hE2 kM hk hcz dN hbz htz hrz HD
 simp only[ax]at qF⊢
 go_enter Tryz.func30,Tryz.ntmps30
 have HN:=hide hn
 clear hn
 have eT:=hide hn'
 clear hn'
 have HQ:=hide hq
 clear hq
 have HW:=hide hw
 clear hw
 have HC:=hide hc
 clear hc
 have HO:=hide ho
 clear ho
 have HZ:=hide hz
 clear hz
 have HR:=hide hr
 clear hr
 have kr:=hide hor
 clear hor
 go_wp2_with fail
 obtain ⟨W3,hW3,d9,bR,o8⟩:=dm w x A n c A' n' c' aY n'' c'' rn A1 n1 c1 Ak nk ck A3 n3 c3 on A2 n2 c2 Al nl cl A4 n4 c4
 rw[<-hW3]
 clear hW3
 have uy:=hide bR
 clear bR
 obtain ⟨W4,jb⟩: ∃W,W=W3.alloc (.cells #[.string ⟨#[]⟩,.bool false,.int .i64 0,.int .i64 0,.int .i64 0] 68):=⟨_,rfl⟩
 obtain ⟨fI,mZ,z0,z1,z2,z3,z4⟩:=ky (b:=w.heap.size+1+1+1) jb (by rw[d9.out])
 have fM:Hid (bH W4 (w.heap.size+1+1+1) 68 5):=hide (by rw[<-d9.out,jb];exact bH.made _ _ _ _ rfl)
 rw[<-jb]
 clear jb
 have fZ:=hide fI
 clear fI
 have L4:=lt_of_cell z0
 obtain ⟨⟨LR,g0,g1,g2,g3,g4,g5,g6,g7,g8,g9,g10,g11,g12,g13⟩,⟨L2,r0,r1,r2,r3⟩,L3,s0,s1,s2,s3⟩:=o8.out _ fZ.out
 go_wp2_with fail
 have lq:=hide (aa uy.out fZ.out)
 refine (qF.out _ (HN.out.below lq.out) (eT.out.below lq.out) (HQ.out.below lq.out) (HW.out.below lq.out) (HC.out.below lq.out) (HR.out.below lq.out) (HO.out.below lq.out) (kr.out.below lq.out) (HZ.out.below lq.out)).mono ?_
 rintro e Nf ⟨⟨bv,rfl,hol⟩,kN⟩
 have Gx:=lX (jF g0 g1 g2 g3 g4 g5 g6 g7 g8 g9 g10 g11 g12 g13) (lX (jI r0 r1 r2 r3) (lX (jI s0 s1 s2 s3) (xG z0 z1 z2 z3 z4)))
 have mW:=hide kN
 clear kN
 rw[rW.out]
 obtain ⟨Ab,cb,rfl,hib⟩:=pU hol
 obtain ⟨mb,hmb⟩: ∃m,VL.length=m:=⟨_,rfl⟩
 rw[hmb]at hib⊢
 clear hol hmb
 have IA:=hide hib
 clear hib
 have q0:((0:Int) != 0)=false:=by decide
 obtain ⟨⟨LR,g0,g1,g2,g3,g4,g5,g6,g7,g8,g9,g10,g11,g12,g13⟩,⟨L2,r0,r1,r2,r3⟩,⟨L3,s0,s1,s2,s3⟩,L4,z0,z1,z2,z3,z4⟩:=Gx.out _ mW.out
 have dI:=hide (show ¬w.heap.size+1+1+1=Nf.heap.size from by have:=L4;(try simp at this);omega)
 go_wp2_with fail
 obtain ⟨W6,qB⟩: ∃W,W=Nf.alloc (.cells #[.string x.name,.bool false,.int .i64 0,.int .i64 0,.int .i64 0] 68):=⟨_,rfl⟩
 obtain ⟨ng,IP,v0,v1,v2,v3,v4⟩:=ky qB rfl
 have xD:Hid (bH W6 (Nf.heap.size) 68 5):=hide (by rw[qB];exact bH.made _ _ _ _ rfl)
 rw[<-qB]
 clear qB
 have kL:=hide ng
 clear ng
 have L6:=lt_of_cell v0
 have Zj:Hid (BG VL=(aH VL,0)):=hide (by rw[BG,if_neg];rw[Dy.out];simpa using nS ND.out _)
 have qD:=hide (aa mW.out kL.out)
 obtain ⟨⟨LR,g0,g1,g2,g3,g4,g5,g6,g7,g8,g9,g10,g11,g12,g13⟩,⟨L2,r0,r1,r2,r3⟩,⟨L3,s0,s1,s2,s3⟩,L4,z0,z1,z2,z3,z4⟩:=Gx.out _ qD.out
 go_wp2_with fail
 refine (MZ _ Ab mb cb VL (IA.out.below kL.out)).mono ?_
 rintro e w16 ⟨rfl,oC⟩
 have UN:=lX (jF g0 g1 g2 g3 g4 g5 g6 g7 g8 g9 g10 g11 g12 g13) (lX (jI r0 r1 r2 r3) (lX (jI s0 s1 s2 s3) (lX (xG z0 z1 z2 z3 z4) (xG v0 v1 v2 v3 v4))))
 have gp:=hide oC
 clear oC
 rw[Zj.out]
 have Ai:Hid (VR=⟨x.name,decide (0<aH VL),aH VL,0,0⟩):=hide (by rw[uk.out,if_neg (by simpa using k5),if_neg (by simpa using k6)])
 obtain ⟨N,hN⟩: ∃N,aH VL=N:=⟨_,rfl⟩
 rw[hN]at Ai⊢
 clear hN
 have IC:=dI.out
 have Kb:=hide (aa (aa mW.out kL.out) gp.out)
 have y0:=(fM.out.below Kb.out).frozen 0
 have y1:=(fM.out.below Kb.out).frozen 1
 have y2:=(fM.out.below Kb.out).frozen 2
 have y3:=(fM.out.below Kb.out).frozen 3
 have y4:=(fM.out.below Kb.out).frozen 4
 have x0:=(xD.out.below gp.out).frozen 0
 have x1:=(xD.out.below gp.out).frozen 1
 have x2:=(xD.out.below gp.out).frozen 2
 have x3:=(xD.out.below gp.out).frozen 3
 have x4:=(xD.out.below gp.out).frozen 4
 have nP:=hide (aa (aa (aa (aa uy.out fZ.out) mW.out) kL.out) gp.out)
 obtain ⟨⟨LR,g0,g1,g2,g3,g4,g5,g6,g7,g8,g9,g10,g11,g12,g13⟩,⟨L2,r0,r1,r2,r3⟩,⟨L3,s0,s1,s2,s3⟩,⟨L4,z0,z1,z2,z3,z4⟩,L6,v0,v1,v2,v3,v4⟩:=UN.out _ gp.out
 have hgl:=L6
 go_wp2
 obtain rfl:=HJ.out
 obtain rfl:=Ai.out
 refine bodyPost_ret (v:=.tuple #[.agg (Ver.cells ⟨x.name,decide (0<N),N,0,0⟩).toArray,.int .i64 0]) (aA (cs:=Ver.cells ⟨x.name,decide (0<N),N,0,0⟩) rfl _ _ _ _ _ rfl rfl (lJ (ae (ae z0 (.inl dI.out)) (.inl dI.out)) (ae (ae z1 (.inl dI.out)) (.inl dI.out)) (ae (ae z2 (.inl dI.out)) (.inl dI.out)) (ae (ae z3 (.inl dI.out)) (.inl dI.out)) (ae (ae z4 (.inl dI.out)) (.inl dI.out))) Tryz.underlying68 rfl (by kernel_rfl)) rfl ⟨rfl,(((((((nP.out.setCell (by simp;omega) _).setCell (by simp;omega) _).setCell (by simp;omega) _).setCell (by simp;omega) _).setCell (by simp;omega) _).setCell (by simp;omega) _).setCell (by simp;omega) _)⟩
theorem wS (hE:aI x cols ocols rows orows zs=0)(k5:(x.kind==5)=false)(k6:(x.kind==6)=true):
  Calls Tryz.prog 30 #[.agg (ax x A n c A' n' c' aY n'' c'').toArray,.agg #[.string rn,.slice A1 n1 c1,.slice Ak nk ck,.slice A3 n3 c3],.agg #[.string on,.slice A2 n2 c2,.slice Al nl cl,.slice A4 n4 c4],.slice A5 n5 c5] w
   λe w'=>e=.returned (.tuple #[.agg (di x cols ocols rows orows zs).2.cells.toArray,.int .i64 (di x cols ocols rows orows zs).1])/\Below w.heap.size w w':=by
 have qF:=hide λW hn hn' hq hw hc hr ho hor hz=>qf W x A n c hn A' n' c' hn' aY n'' c'' hq hw rn A1 n1 c1 cols hc Ak nk ck A3 n3 c3 rows hr on A2 n2 c2 ocols ho Al nl cl A4 n4 c4 orows hor A5 n5 c5 zs hz hb0 hb1 hb2 hb3 (.inr (by have h:x.kind=6:=(by simpa using k6);rw[h];exact ⟨rfl,rfl,rfl,rfl,rfl⟩))
 have HD:=hide (show di x cols ocols rows orows zs=if aI x cols ocols rows orows zs≠0 then (aI x cols ocols rows orows zs,mQ) else (0,lN x cols ocols rows orows zs) from rfl)
 have rW:=hide (show (bG x cols ocols rows orows zs).1=aI x cols ocols rows orows zs from by rw[bG];split <;> simp_all)
 have uk:=hide (show lN x cols ocols rows orows zs=if x.kind=5 then ⟨x.name,!dX (aH (rows.filter λy=>bB x.cond cols y.row zs)) (aH rows) x.ln x.ld x.mn x.md,0,aH (rows.filter λy=>bB x.cond cols y.row zs),aH rows⟩
  else if x.kind=6 then ⟨x.name,aK (bM cols x.cols) rows != aK (bM ocols x.ocols) orows,0,aK (bM cols x.cols) rows,aK (bM ocols x.ocols) orows⟩
  else ⟨x.name,decide (0<aH (bG x cols ocols rows orows zs).2),aH (bG x cols ocols rows orows zs).2,0,0⟩ from rfl)
 obtain ⟨J,hJ⟩: ∃J,di x cols ocols rows orows zs=J:=⟨_,rfl⟩
 obtain ⟨VR,tN⟩: ∃J,lN x cols ocols rows orows zs=J:=⟨_,rfl⟩
 rw[hJ,tN]at HD
 rw[tN]at uk
 rw[hJ]
 obtain ⟨VL,qP⟩: ∃l,(bG x cols ocols rows orows zs).2=l:=⟨_,rfl⟩
 rw[qP]at uk qF
 have Dx:=hide qP
 clear hJ tN qP
 obtain ⟨hE1,hE2,kM⟩:=dR hE
 obtain ⟨hk,hcz,dN⟩:=fw hE1
 obtain ⟨hbz,htz,hrz⟩:=bA hE2
 have HJ:Hid (J=(0,VR)):=hide (by rw[HD.out,if_neg (by rw[hE];simp)])
 have Dy:Hid (VL=rows.filter λy=>cO x cols ocols rows orows zs y.row):=hide (by rw[<-Dx.out,bG,if_neg (by rw[hE];simp)])
 have ND:=hide hbz
 rw[hE]at rW
 have Mh:x.kind=6:=by simpa using k6
 obtain ⟨hi1,hp1,_,ho1⟩:=dN (by rw[iE,Mh];rfl)
 obtain ⟨_,hi2,hl2⟩:=ho1 (by rw[iL,Mh];rfl)
 have HT1:=hide hE2
 have HT2:=hide (kM (by rw[iL,Mh];rfl))
 have Qv:=hide (fC hi1).2.1
 have Qw:=hide (fC hi2).2.1
 have Kq:=hide hp1
 have Kr:=hide (show 0<x.ocols.length by omega)
 have SB:=hide Mh
 clear hE hE1 hE2 kM hk hcz dN hbz htz hrz HD Mh hi1 hp1 ho1 hi2 hl2
 simp only[ax]at qF⊢
 go_enter Tryz.func30,Tryz.ntmps30
 have HN:=hide hn
 clear hn
 have eT:=hide hn'
 clear hn'
 have HQ:=hide hq
 clear hq
 have HW:=hide hw
 clear hw
 have HC:=hide hc
 clear hc
 have HO:=hide ho
 clear ho
 have HZ:=hide hz
 clear hz
 have HR:=hide hr
 clear hr
 have kr:=hide hor
 clear hor
 go_wp2_with fail
 obtain ⟨W3,hW3,d9,bR,zD⟩:=dm w x A n c A' n' c' aY n'' c'' rn A1 n1 c1 Ak nk ck A3 n3 c3 on A2 n2 c2 Al nl cl A4 n4 c4
 rw[<-hW3]
 clear hW3
 have kw:=hide bR
 clear bR
 obtain ⟨W4,jb⟩: ∃W,W=W3.alloc (.cells #[.string ⟨#[]⟩,.bool false,.int .i64 0,.int .i64 0,.int .i64 0] 68):=⟨_,rfl⟩
 obtain ⟨fI,mZ,z0,z1,z2,z3,z4⟩:=ky (b:=w.heap.size+1+1+1) jb (by rw[d9.out])
 have fM:Hid (bH W4 (w.heap.size+1+1+1) 68 5):=hide (by rw[<-d9.out,jb];exact bH.made _ _ _ _ rfl)
 rw[<-jb]
 clear jb
 have ma:=hide fI
 clear fI
 have L4:=lt_of_cell z0
 obtain ⟨⟨LR,g0,g1,g2,g3,g4,g5,g6,g7,g8,g9,g10,g11,g12,g13⟩,⟨L2,r0,r1,r2,r3⟩,L3,s0,s1,s2,s3⟩:=zD.out _ ma.out
 go_wp2_with fail
 have nO:=hide (aa kw.out ma.out)
 refine (qF.out _ (HN.out.below nO.out) (eT.out.below nO.out) (HQ.out.below nO.out) (HW.out.below nO.out) (HC.out.below nO.out) (HR.out.below nO.out) (HO.out.below nO.out) (kr.out.below nO.out) (HZ.out.below nO.out)).mono ?_
 rintro e Qf ⟨⟨bv,rfl,hol⟩,Uf⟩
 have XW:=lX (jF g0 g1 g2 g3 g4 g5 g6 g7 g8 g9 g10 g11 g12 g13) (lX (jI r0 r1 r2 r3) (lX (jI s0 s1 s2 s3) (xG z0 z1 z2 z3 z4)))
 have nQ:=hide Uf
 clear Uf
 rw[rW.out]
 obtain ⟨Ab,cb,rfl,hib⟩:=pU hol
 obtain ⟨mb,hmb⟩: ∃m,VL.length=m:=⟨_,rfl⟩
 rw[hmb]at hib⊢
 clear hol hmb
 have IA:=hide hib
 clear hib
 have n0:0<n:=by rw[<-HN.out.len];exact Kq.out
 have UM:0<n':=by rw[<-eT.out.len];exact Kr.out
 have Ns:=hide (aa (aa kw.out ma.out) nQ.out)
 obtain ⟨bn,un,nA,rfl,hbn,Tg,m0,_⟩:=(HN.out.below Ns.out).str n0
 obtain ⟨bm,um,nB,rfl,Nn,Tf,m1,_⟩:=(eT.out.below Ns.out).str UM
 rw[Nat.add_zero]at m0 m1
 have U7:(0:Int)<(n:Int):=by omega
 have z02:(0:Int)<(n':Int):=by omega
 have Ke:Hid (index cols nA=(bM cols x.cols:Int)/\bM cols x.cols<cols.length):=hide (by
  have h1:=Qv.out nA (aM Tg.out)
  rw[bM,dW Tg.out]
  omega)
 have Kg:Hid (index ocols nB=(bM ocols x.ocols:Int)/\bM ocols x.ocols<ocols.length):=hide (by
  have h1:=Qw.out nB (aM Tf.out)
  rw[bM,dW Tf.out]
  omega)
 have Ai:Hid (VR=⟨x.name,aK (bM cols x.cols) rows != aK (bM ocols x.ocols) orows,0,aK (bM cols x.cols) rows,aK (bM ocols x.ocols) orows⟩):=hide (by rw[uk.out,if_neg (by rw[SB.out];decide),if_pos SB.out])
 obtain ⟨⟨LR,g0,g1,g2,g3,g4,g5,g6,g7,g8,g9,g10,g11,g12,g13⟩,⟨L2,r0,r1,r2,r3⟩,⟨L3,s0,s1,s2,s3⟩,L4,z0,z1,z2,z3,z4⟩:=XW.out _ nQ.out
 have qx:=hide (show ¬w.heap.size=Qf.heap.size from by have:=LR;(try simp at this);omega)
 have kK:=hide (show ¬w.heap.size+1=Qf.heap.size from by have:=L2;(try simp at this);omega)
 have lS:=hide (show ¬w.heap.size+1+1=Qf.heap.size from by have:=L3;(try simp at this);omega)
 have FQ:=hide (show ¬bn=Qf.heap.size from by omega)
 have yw:=hide (show ¬bm=Qf.heap.size from by omega)
 have LM:=lt_of_cell m0
 have Tp:=lt_of_cell m1
 have q0:((0:Int) != 0)=false:=by decide
 have dI:=hide (show ¬w.heap.size+1+1+1=Qf.heap.size from by have:=L4;(try simp at this);omega)
 go_wp2_with fail
 obtain ⟨W6,qB⟩: ∃W,W=Qf.alloc (.cells #[.string x.name,.bool false,.int .i64 0,.int .i64 0,.int .i64 0] 68):=⟨_,rfl⟩
 obtain ⟨ng,IP,v0,v1,v2,v3,v4⟩:=ky qB rfl
 have xD:Hid (bH W6 (Qf.heap.size) 68 5):=hide (by rw[qB];exact bH.made _ _ _ _ rfl)
 rw[<-qB]
 clear qB
 have XX:=lX (jF g0 g1 g2 g3 g4 g5 g6 g7 g8 g9 g10 g11 g12 g13) (lX (jI r0 r1 r2 r3) (lX (jI s0 s1 s2 s3) (lX (xG z0 z1 z2 z3 z4) (lX (uE m0) (uE m1)))))
 have oV:=hide ng
 clear ng
 have L6:=lt_of_cell v0
 obtain ⟨Q1,Ub⟩: ∃q,aK (bM cols x.cols) rows=q:=⟨_,rfl⟩
 obtain ⟨Q2,O4⟩: ∃q,aK (bM ocols x.ocols) orows=q:=⟨_,rfl⟩
 have Ta:=hide λW h1 h2=>BK W rn A1 n1 c1 cols h1 Ak nk ck A3 n3 c3 rows h2 nA _ Ke.out.1 Ke.out.2 HT1.out
 have QB:=hide λW h1 h2=>BK W on A2 n2 c2 ocols h1 Al nl cl A4 n4 c4 orows h2 nB _ Kg.out.1 Kg.out.2 HT2.out
 rw[Ub]at Ta Ai
 rw[O4]at QB Ai
 clear Ub O4
 obtain ⟨⟨LR,g0,g1,g2,g3,g4,g5,g6,g7,g8,g9,g10,g11,g12,g13⟩,⟨L2,r0,r1,r2,r3⟩,⟨L3,s0,s1,s2,s3⟩,⟨L4,z0,z1,z2,z3,z4⟩,⟨LM,m0⟩,Tp,m1⟩:=XX.out _ oV.out
 have KW:=hide r0
 have DJ:=hide r1
 have KY:=hide r2
 have KZ:=hide r3
 have K3:=hide s0
 have K4:=hide s1
 have K5:=hide s2
 have K6:=hide s3
 have KS:=hide g3
 have KT:=hide g5
 have NT:=hide m0
 have NU:=hide m1
 have qj:=hide LR
 have ni:=hide L2
 have qi:=hide L3
 have NS:=hide LM
 have Cf:=hide Tp
 have WY:=hide v0
 have WZ:=hide v1
 have Xa:=hide v2
 have Xb:=hide v3
 have Xc:=hide v4
 have IL:=hide L6
 have Xd:=hide z0
 have Xe:=hide z1
 have Xf:=hide z2
 have Xg:=hide z3
 have Xh:=hide z4
 have KQ:=hide L4
 have R4:=hide (aa (aa (aa kw.out ma.out) nQ.out) oV.out)
 go_wp2
 have Jy:True:=trivial
 have qo:=hide (aa (aa (aa kw.out ma.out) nQ.out) oV.out)
 go_region_held3 (λV=>V.cell? ⟨w.heap.size+1,0,none⟩=some (.string rn)/\V.cell? ⟨w.heap.size+1,1,none⟩=some (.slice A1 n1 c1)/\V.cell? ⟨w.heap.size+1,2,none⟩=some (.slice Ak nk ck)/\V.cell? ⟨w.heap.size+1,3,none⟩=some (.slice A3 n3 c3)/\V.cell? ⟨w.heap.size+1+1,0,none⟩=some (.string on)/\V.cell? ⟨w.heap.size+1+1,1,none⟩=some (.slice A2 n2 c2)/\V.cell? ⟨w.heap.size+1+1,2,none⟩=some (.slice Al nl cl)/\V.cell? ⟨w.heap.size+1+1,3,none⟩=some (.slice A4 n4 c4)/\V.cell? ⟨w.heap.size,3,none⟩=some (.slice (some ⟨bn,un,none⟩) n c)/\V.cell? ⟨w.heap.size,5,none⟩=some (.slice (some ⟨bm,um,none⟩) n' c')/\V.cell? ⟨bn,un,none⟩=some (.string nA)/\V.cell? ⟨bm,um,none⟩=some (.string nB)) (first|exact ⟨ae (ae (ah fG.out ni.out KW.out) (.inl kK.out)) (.inl kK.out),ae (ae (ah fG.out ni.out DJ.out) (.inl kK.out)) (.inl kK.out),ae (ae (ah fG.out ni.out KY.out) (.inl kK.out)) (.inl kK.out),ae (ae (ah fG.out ni.out KZ.out) (.inl kK.out)) (.inl kK.out),ae (ae (ah fG.out qi.out K3.out) (.inl lS.out)) (.inl lS.out),ae (ae (ah fG.out qi.out K4.out) (.inl lS.out)) (.inl lS.out),ae (ae (ah fG.out qi.out K5.out) (.inl lS.out)) (.inl lS.out),ae (ae (ah fG.out qi.out K6.out) (.inl lS.out)) (.inl lS.out),ae (ae (ah fG.out qj.out KS.out) (.inl qx.out)) (.inl qx.out),ae (ae (ah fG.out qj.out KT.out) (.inl qx.out)) (.inl qx.out),ae (ae (ah fG.out NS.out NT.out) (.inl FQ.out)) (.inl FQ.out),ae (ae (ah fG.out Cf.out NU.out) (.inl yw.out)) (.inl yw.out)⟩|exact ⟨ae (ah fG.out ni.out KW.out) (.inl kK.out),ae (ah fG.out ni.out DJ.out) (.inl kK.out),ae (ah fG.out ni.out KY.out) (.inl kK.out),ae (ah fG.out ni.out KZ.out) (.inl kK.out),ae (ah fG.out qi.out K3.out) (.inl lS.out),ae (ah fG.out qi.out K4.out) (.inl lS.out),ae (ah fG.out qi.out K5.out) (.inl lS.out),ae (ah fG.out qi.out K6.out) (.inl lS.out),ae (ah fG.out qj.out KS.out) (.inl qx.out),ae (ah fG.out qj.out KT.out) (.inl qx.out),ae (ah fG.out NS.out NT.out) (.inl FQ.out),ae (ah fG.out Cf.out NU.out) (.inl yw.out)⟩|exact ⟨ah fG.out ni.out KW.out,ah fG.out ni.out DJ.out,ah fG.out ni.out KY.out,ah fG.out ni.out KZ.out,ah fG.out qi.out K3.out,ah fG.out qi.out K4.out,ah fG.out qi.out K5.out,ah fG.out qi.out K6.out,ah fG.out qj.out KS.out,ah fG.out qj.out KT.out,ah fG.out NS.out NT.out,ah fG.out Cf.out NU.out⟩|exact ⟨ah ik.out ni.out KW.out,ah ik.out ni.out DJ.out,ah ik.out ni.out KY.out,ah ik.out ni.out KZ.out,ah ik.out qi.out K3.out,ah ik.out qi.out K4.out,ah ik.out qi.out K5.out,ah ik.out qi.out K6.out,ah ik.out qj.out KS.out,ah ik.out qj.out KT.out,ah ik.out NS.out NT.out,ah ik.out Cf.out NU.out⟩|exact ⟨r0,r1,r2,r3,s0,s1,s2,s3,g3,g5,m0,m1⟩|go_keep) (first|(clear Jy;go_at_call 66;refine (Ta.out _ (by exact (HC.out.below qo.out).below (Below.refl _ _).drew) (by exact (HR.out.below qo.out).below (Below.refl _ _).drew)).mono ?_;rintro e w7 ⟨rfl,dC⟩;have ik:=hide (ag dC);clear dC;have ED:True:=trivial)|(clear ED;go_at_call 66;refine (QB.out _ (by exact (HO.out.below qo.out).below ik.out) (by exact (kr.out.below qo.out).below ik.out)).mono ?_;rintro e w8 ⟨rfl,uR⟩;have fG:=hide (aa ik.out uR);have v0:=ah fG.out IL.out WY.out;have v1:=ah fG.out IL.out WZ.out;have v2:=ah fG.out IL.out Xa.out;have v3:=ah fG.out IL.out Xb.out;have v4:=ah fG.out IL.out Xc.out;have Kv:=hide (xD.out.below fG.out);have x0:=Kv.out.frozen 0;have x1:=Kv.out.frozen 1;have x2:=Kv.out.frozen 2;have x3:=Kv.out.frozen 3;have x4:=Kv.out.frozen 4;clear uR;have Nq:True:=trivial))
 all_goals
  have Iu:=hide (aa nQ.out oV.out)
  have yu:=hide ((fM.out.below Iu.out).below fG.out)
  have y0:=yu.out.frozen 0
  have y1:=yu.out.frozen 1
  have y2:=yu.out.frozen 2
  have y3:=yu.out.frozen 3
  have y4:=yu.out.frozen 4
  have z0:=ah fG.out KQ.out Xd.out
  have z1:=ah fG.out KQ.out Xe.out
  have z2:=ah fG.out KQ.out Xf.out
  have z3:=ah fG.out KQ.out Xg.out
  have z4:=ah fG.out KQ.out Xh.out
  have IC:=dI.out
  have nP:=hide (aa R4.out fG.out)
  have hgl:=IL.out
  go_wp2
  obtain rfl:=HJ.out
  obtain rfl:=Ai.out
  refine bodyPost_ret (v:=.tuple #[.agg (Ver.cells ⟨x.name,Q1 != Q2,0,Q1,Q2⟩).toArray,.int .i64 0]) (aA (cs:=Ver.cells ⟨x.name,Q1 != Q2,0,Q1,Q2⟩) rfl _ _ _ _ _ rfl rfl (lJ (ae (ae (ae z0 (.inl dI.out)) (.inl dI.out)) (.inl dI.out)) (ae (ae (ae z1 (.inl dI.out)) (.inl dI.out)) (.inl dI.out)) (ae (ae (ae z2 (.inl dI.out)) (.inl dI.out)) (.inl dI.out)) (ae (ae (ae z3 (.inl dI.out)) (.inl dI.out)) (.inl dI.out)) (ae (ae (ae z4 (.inl dI.out)) (.inl dI.out)) (.inl dI.out))) Tryz.underlying68 rfl (by kernel_rfl)) rfl ⟨rfl,((((((((nP.out.setCell (by simp;omega) _).setCell (by simp;omega) _).setCell (by simp;omega) _).setCell (by simp;omega) _).setCell (by simp;omega) _).setCell (by simp;omega) _).setCell (by simp;omega) _).setCell (by simp;omega) _)⟩
theorem Ew (hE:aI x cols ocols rows orows zs=0)(k5:(x.kind==5)=true):
  Calls Tryz.prog 30 #[.agg (ax x A n c A' n' c' aY n'' c'').toArray,.agg #[.string rn,.slice A1 n1 c1,.slice Ak nk ck,.slice A3 n3 c3],.agg #[.string on,.slice A2 n2 c2,.slice Al nl cl,.slice A4 n4 c4],.slice A5 n5 c5] w
   λe w'=>e=.returned (.tuple #[.agg (di x cols ocols rows orows zs).2.cells.toArray,.int .i64 (di x cols ocols rows orows zs).1])/\Below w.heap.size w w':=by
 have qF:=hide λW hn hn' hq hw hc hr ho hor hz=>kH W x A n c hn A' n' c' hn' aY n'' c'' hq hw rn A1 n1 c1 cols hc Ak nk ck A3 n3 c3 rows hr on A2 n2 c2 ocols ho Al nl cl A4 n4 c4 orows hor A5 n5 c5 zs hz hb0 hb1 hb2 hb3
 have HD:=hide (show di x cols ocols rows orows zs=if aI x cols ocols rows orows zs≠0 then (aI x cols ocols rows orows zs,mQ) else (0,lN x cols ocols rows orows zs) from rfl)
 have rW:=hide (show (bG x cols ocols rows orows zs).1=aI x cols ocols rows orows zs from by rw[bG];split <;> simp_all)
 have uk:=hide (show lN x cols ocols rows orows zs=if x.kind=5 then ⟨x.name,!dX (aH (rows.filter λy=>bB x.cond cols y.row zs)) (aH rows) x.ln x.ld x.mn x.md,0,aH (rows.filter λy=>bB x.cond cols y.row zs),aH rows⟩
  else if x.kind=6 then ⟨x.name,aK (bM cols x.cols) rows != aK (bM ocols x.ocols) orows,0,aK (bM cols x.cols) rows,aK (bM ocols x.ocols) orows⟩
  else ⟨x.name,decide (0<aH (bG x cols ocols rows orows zs).2),aH (bG x cols ocols rows orows zs).2,0,0⟩ from rfl)
 obtain ⟨J,hJ⟩: ∃J,di x cols ocols rows orows zs=J:=⟨_,rfl⟩
 obtain ⟨VR,tN⟩: ∃J,lN x cols ocols rows orows zs=J:=⟨_,rfl⟩
 rw[hJ,tN]at HD
 rw[tN]at uk
 rw[hJ]
 obtain ⟨VL,qP⟩: ∃l,(bG x cols ocols rows orows zs).2=l:=⟨_,rfl⟩
 rw[qP]at uk qF
 have Dx:=hide qP
 clear hJ tN qP
 obtain ⟨hE1,hE2,kM⟩:=dR hE
 obtain ⟨hk,hcz,dN⟩:=fw hE1
 obtain ⟨hbz,htz,hrz⟩:=bA hE2
 have HJ:Hid (J=(0,VR)):=hide (by rw[HD.out,if_neg (by rw[hE];simp)])
 have Dy:Hid (VL=rows.filter λy=>cO x cols ocols rows orows zs y.row):=hide (by rw[<-Dx.out,bG,if_neg (by rw[hE];simp)])
 have ND:=hide hbz
 rw[hE]at rW
 have RU:=hide (show x.kind=5 by simpa using k5)
 have vF:=hide (Ci hbz)
 clear hE hE1 hE2 kM hk hcz dN hbz htz hrz HD
 simp only[ax]at qF⊢
 go_enter Tryz.func30,Tryz.ntmps30
 have HN:=hide hn
 clear hn
 have eT:=hide hn'
 clear hn'
 have HQ:=hide hq
 clear hq
 have HW:=hide hw
 clear hw
 have HC:=hide hc
 clear hc
 have HO:=hide ho
 clear ho
 have HZ:=hide hz
 clear hz
 have HR:=hide hr
 clear hr
 have kr:=hide hor
 clear hor
 go_wp2_with fail
 obtain ⟨W3,hW3,d9,bR,Z8⟩:=dm w x A n c A' n' c' aY n'' c'' rn A1 n1 c1 Ak nk ck A3 n3 c3 on A2 n2 c2 Al nl cl A4 n4 c4
 rw[<-hW3]
 clear hW3
 have lw:=hide bR
 clear bR
 obtain ⟨W4,jb⟩: ∃W,W=W3.alloc (.cells #[.string ⟨#[]⟩,.bool false,.int .i64 0,.int .i64 0,.int .i64 0] 68):=⟨_,rfl⟩
 obtain ⟨fI,mZ,z0,z1,z2,z3,z4⟩:=ky (b:=w.heap.size+1+1+1) jb (by rw[d9.out])
 have fM:Hid (bH W4 (w.heap.size+1+1+1) 68 5):=hide (by rw[<-d9.out,jb];exact bH.made _ _ _ _ rfl)
 rw[<-jb]
 clear jb
 have IM:=hide fI
 clear fI
 have L4:=lt_of_cell z0
 obtain ⟨⟨LR,g0,g1,g2,g3,g4,g5,g6,g7,g8,g9,g10,g11,g12,g13⟩,⟨L2,r0,r1,r2,r3⟩,L3,s0,s1,s2,s3⟩:=Z8.out _ IM.out
 go_wp2_with fail
 have vE:=hide (aa lw.out IM.out)
 refine (qF.out _ (HN.out.below vE.out) (eT.out.below vE.out) (HQ.out.below vE.out) (HW.out.below vE.out) (HC.out.below vE.out) (HR.out.below vE.out) (HO.out.below vE.out) (kr.out.below vE.out) (HZ.out.below vE.out)).mono ?_
 rintro e VU ⟨⟨bv,rfl,hol⟩,Uj⟩
 have VP:=lX (jF g0 g1 g2 g3 g4 g5 g6 g7 g8 g9 g10 g11 g12 g13) (lX (jI r0 r1 r2 r3) (lX (jI s0 s1 s2 s3) (xG z0 z1 z2 z3 z4)))
 have DK:=hide Uj
 clear Uj
 rw[rW.out]
 obtain ⟨Ab,cb,rfl,hib⟩:=pU hol
 obtain ⟨mb,hmb⟩: ∃m,VL.length=m:=⟨_,rfl⟩
 rw[hmb]at hib⊢
 clear hol hmb
 have IA:=hide hib
 clear hib
 obtain ⟨⟨LR,g0,g1,g2,g3,g4,g5,g6,g7,g8,g9,g10,g11,g12,g13⟩,⟨L2,r0,r1,r2,r3⟩,⟨L3,s0,s1,s2,s3⟩,L4,z0,z1,z2,z3,z4⟩:=VP.out _ DK.out
 have qx:=hide (show ¬w.heap.size=VU.heap.size from by have:=LR;(try simp at this);omega)
 have kK:=hide (show ¬w.heap.size+1=VU.heap.size from by have:=L2;(try simp at this);omega)
 have q0:((0:Int) != 0)=false:=by decide
 have dI:=hide (show ¬w.heap.size+1+1+1=VU.heap.size from by have:=L4;(try simp at this);omega)
 have Sz:=hide λW hq hw hc Ar nr cr row hr hz=>Bo W x A n c A' n' c' aY n'' c'' hq hw A1 n1 c1 cols hc Ar nr cr row hr A5 n5 c5 zs hz
 simp only[ax]at Sz
 have Ai:Hid (VR=⟨x.name,!dX (aH (rows.filter λy=>bB x.cond cols y.row zs)) (aH rows) x.ln x.ld x.mn x.md,0,aH (rows.filter λy=>bB x.cond cols y.row zs),aH rows⟩):=hide (by rw[uk.out,if_pos RU.out])
 go_wp2_with fail
 obtain ⟨WB,rfl⟩: ∃W,W=VU:=⟨_,rfl⟩
 have KJ:=hide (aa (aa lw.out IM.out) DK.out).size
 have Dr:=hide (aa (aa lw.out IM.out) DK.out)
 have BQ:=hide (HQ.out.below Dr.out)
 have BW:=hide (HW.out.below Dr.out)
 have BC:=hide (HC.out.below Dr.out)
 have BR:=hide (HR.out.below Dr.out)
 have BZ:=hide (HZ.out.below Dr.out)
 have HLEN:=hide HR.out.len
 have h63:=HR.out.le
 have Rp:n3<=4096:=by rw[<-HLEN.out];exact vF.out.1
 obtain ⟨W6,qB⟩: ∃W,W=WB.alloc (.cells #[.string x.name,.bool false,.int .i64 0,.int .i64 0,.int .i64 0] 68):=⟨_,rfl⟩
 obtain ⟨ng,IP,v0,v1,v2,v3,v4⟩:=ky qB rfl
 have Kc:Hid (∀o,W6.frozen? ⟨WB.heap.size,o,none⟩=false):=hide (λo=>by rw[qB];exact frozen_of_row _ _ o _ _ (heap_alloc_new _ _))
 have xD:Hid (bH W6 (WB.heap.size) 68 5):=hide (by rw[qB];exact bH.made _ _ _ _ rfl)
 rw[<-qB]
 clear qB
 have KP:=hide ng
 clear ng
 have Tc:Hid (VerAt W6 WB.heap.size ⟨x.name,false,0,0,0⟩):=hide ⟨v0,v1,v2,v3,v4,Kc.out⟩
 clear v0 v1 v2 v3 v4
 go_wp2
 go_loopw [47] (λi wr=> ∃k:Nat,k<=n3/\i=.int .i64 k/\VerAt wr WB.heap.size ⟨x.name,false,0,aH ((rows.take k).filter λy=>bB x.cond cols y.row zs),aH (rows.take k)⟩/\Below WB.heap.size WB wr) (λi _=>n3-(RowKit.intOf i).toNat)
 case atStart=>exact ⟨0,Nat.zero_le _,rfl,Tc.out,KP.out⟩
 case round=>
  obtain ⟨k,hk,rfl,hv,hb⟩:=hrel
  have HV:=hide hv
  clear hv
  have tH:=hide hb
  clear hb
  have l9:=hide tH.out
  have jk:=hide (aa (aa (aa lw.out IM.out) DK.out) tH.out)
  by_cases hlt:k<n3
  ·obtain ⟨b,off,y,rfl,qy,HX,Ax,An,Ac,f0,f1,e2,e3⟩:=BR.out.ent hlt
   have hBb:b<wr.heap.size:=Nat.lt_of_lt_of_le qy l9.out.size
   have e0:=ah l9.out qy f0
   have e1:=ah l9.out qy f1
   have k0:(0:Int)<=(k:Int):=by omega
   have k1:(k:Int)<(n3:Int):=by omega
   have HRW:=hide e2
   have Sb:=vF.out.2 y (aM HX.out)
   have Zw:=hide (aM HX.out)
   have En:=oK (l:=rows.take k) (C:=65536) λz hz=>vF.out.2 z (List.mem_of_mem_take hz)
   have Mf:=oK (l:=(rows.take k).filter λy=>bB x.cond cols y.row zs) (C:=65536) λz hz=>vF.out.2 z (List.mem_of_mem_take (List.mem_filter.1 hz).1)
   have hlk:(rows.take k).length<=4096:=by rw[List.length_take];omega
   have hlk2:((rows.take k).filter λy=>bB x.cond cols y.row zs).length<=4096:=Nat.le_trans (List.length_filter_le _ _) hlk
   have HW1:Hid (aH (rows.take (k+1))=aH (rows.take k)+y.count):=hide (by rw[bP HX.out,lK];simp[aH])
   have NL:Hid (aH ((rows.take (k+1)).filter λy=>bB x.cond cols y.row zs)=aH ((rows.take k).filter λy=>bB x.cond cols y.row zs)+(if bB x.cond cols y.row zs=true then y.count else 0)):=hide (by
    rw[bP HX.out,List.filter_append,lK]
    by_cases hq:bB x.cond cols y.row zs=true
    ·simp[hq,aH]
    ·simp[hq,aH])
   obtain ⟨FW,P6⟩: ∃q,aH (rows.take k)=q:=⟨_,rfl⟩
   obtain ⟨FP,TZ⟩: ∃q,aH ((rows.take k).filter λy=>bB x.cond cols y.row zs)=q:=⟨_,rfl⟩
   rw[P6]at En HW1 HV
   rw[TZ]at Mf NL HV
   have hwr:IntKind.i64.wrap (FW+y.count)=FW+y.count:=IntWalk.i64_in _ (by omega)
   have hwr2:IntKind.i64.wrap (FP+y.count)=FP+y.count:=IntWalk.i64_in _ (by omega)
   obtain ⟨hB,Rm⟩: ∃q,bB x.cond cols y.row zs=q:=⟨_,rfl⟩
   rw[Rm]at NL
   have Wp:=hide Rm
   obtain ⟨v0,v1,v2,v3,v4,fz⟩:=HV.out
   have f3:=fz 3
   have f4:=fz 4
   have Dx:=hide HV.out.lt
   have XK:=l9.out.setCell (p:=⟨WB.heap.size,4,none⟩) (Nat.le_refl _) (.int .i64 (FW+y.count))
   have Qp:=hide (XK.alloc XK.size (.cells #[.slice Ax An Ac,.int .i64 y.count] 61))
   clear XK
   have Zl:=hide ((HV.out.set4 (FW+y.count)).below (af (o:=.cells #[.slice Ax An Ac,.int .i64 y.count] 61)))
   clear Sb En Mf hlk hlk2 P6 TZ Rm e2 f0 f1 v0 v1 v2 fz hb1
   have hne1:¬w.heap.size=WB.heap.size:=qx.out
   have hne2:¬w.heap.size+1=WB.heap.size:=kK.out
   have Ux:=Dx.out
   have Iw:=hide (aa DK.out tH.out)
   obtain ⟨⟨LR,g0,g1,g2,g3,g4,g5,g6,g7,g8,g9,g10,g11,g12,g13⟩,⟨L2,r0,r1,r2,r3⟩,⟨L3,s0,s1,s2,s3⟩,L4,z0,z1,z2,z3,z4⟩:=VP.out _ Iw.out
   go_wp2_with fail
   refine (Sz.out _ (by exact BQ.out.below Qp.out) (by exact BW.out.below Qp.out) (by exact BC.out.below Qp.out) _ _ _ y.row (by exact HRW.out.below Qp.out) (by exact BZ.out.below Qp.out)).mono ?_
   rintro e w9 ⟨rfl,gP⟩
   rw[Wp.out]
   have Fz:=hide (Qp.out.trans (gP.mono Qp.out.size))
   have RY:=hide (Zl.out.below gP)
   have x1:=ah (b:=wr.heap.size) (o:=1) (v:=.int .i64 y.count) gP (by simp) (by simp[go_sem])
   clear gP v3 v4 f3 f4 e0 e1
   obtain ⟨v0,v1,v2,v3,v4,fz⟩:=RY.out
   have f3:=fz 3
   have Uw:=RY.out.lt
   clear v0 v1 v2 fz
   cases hB
   ·have FJ:Hid (VerAt w9 WB.heap.size ⟨x.name,false,0,aH ((rows.take (k+1)).filter λy=>bB x.cond cols y.row zs),aH (rows.take (k+1))⟩):=hide (by rw[NL.out,HW1.out];simpa using RY.out)
    go_wp2
    go_roundw
    case rel=>exact ⟨k+1,by omega,by go_num,FJ.out,Fz.out⟩
    case measure=>simp[RowKit.intOf];omega
   ·have FJ:Hid (VerAt (w9.setCell ⟨WB.heap.size,3,none⟩ (.int .i64 (FP+y.count))) WB.heap.size ⟨x.name,false,0,aH ((rows.take (k+1)).filter λy=>bB x.cond cols y.row zs),aH (rows.take (k+1))⟩):=hide (by rw[NL.out,HW1.out];exact RY.out.set3 _)
    have FI:=hide (Fz.out.setCell (p:=⟨WB.heap.size,3,none⟩) (Nat.le_refl _) (.int .i64 (FP+y.count)))
    go_wp2
    go_roundw
    case rel=>exact ⟨k+1,by omega,by go_num,FJ.out,FI.out⟩
    case measure=>simp[RowKit.intOf];omega
  ·have HT:Hid (rows.take k=rows):=hide (List.take_of_length_le (by rw[HLEN.out];omega))
   have hv2:=HV.out
   rw[HT.out]at hv2
   obtain ⟨PP,Ua⟩: ∃q,aH (rows.filter λy=>bB x.cond cols y.row zs)=q:=⟨_,rfl⟩
   obtain ⟨WW,Uc⟩: ∃q,aH rows=q:=⟨_,rfl⟩
   rw[Ua,Uc]at hv2 Ai
   have PM:=hide hv2
   obtain ⟨v0,v1,v2,v3,v4,fz⟩:=hv2
   have hne1:¬w.heap.size=WB.heap.size:=qx.out
   have Te:=hide λW=>Fv W PP WW x.ln x.ld x.mn x.md
   obtain ⟨WI,Cz⟩: ∃q,dX PP WW x.ln x.ld x.mn x.md=q:=⟨_,rfl⟩
   rw[Cz]at Te Ai
   clear Ua Uc Cz v0 v1 v2 fz HT
   have V8:=hide (aa DK.out tH.out)
   obtain ⟨⟨LR,g0,g1,g2,g3,g4,g5,g6,g7,g8,g9,g10,g11,g12,g13⟩,⟨L2,r0,r1,r2,r3⟩,⟨L3,s0,s1,s2,s3⟩,L4,z0,z1,z2,z3,z4⟩:=VP.out _ V8.out
   go_wp2_with fail
   refine (Te.out _).mono ?_
   rintro e w43 ⟨rfl,Rl⟩
   have Tu:=hide Rl
   have TC:=hide (aa tH.out Rl)
   clear Rl
   clear v3 v4
   have hv3:=PM.out.below Tu.out
   have hgl:=hv3.lt
   obtain ⟨v0,v1,v2,v3,v4,fz⟩:=hv3
   have x0:=fz 0
   have x1:=fz 1
   have x2:=fz 2
   have x3:=fz 3
   have x4:=fz 4
   have Iy:=hide (aa DK.out TC.out)
   have y0:=(fM.out.below Iy.out).frozen 0
   have y1:=(fM.out.below Iy.out).frozen 1
   have y2:=(fM.out.below Iy.out).frozen 2
   have y3:=(fM.out.below Iy.out).frozen 3
   have y4:=(fM.out.below Iy.out).frozen 4
   have IC:=dI.out
   have nP:=hide (aa (aa (aa lw.out IM.out) DK.out) TC.out)
   have hws:=KJ.out
   obtain ⟨⟨LR,g0,g1,g2,g3,g4,g5,g6,g7,g8,g9,g10,g11,g12,g13⟩,⟨L2,r0,r1,r2,r3⟩,⟨L3,s0,s1,s2,s3⟩,L4,z0,z1,z2,z3,z4⟩:=VP.out _ Iy.out
   go_wp2
   obtain rfl:=HJ.out
   obtain rfl:=Ai.out
   refine bodyPost_ret (v:=.tuple #[.agg (Ver.cells ⟨x.name,!WI,0,PP,WW⟩).toArray,.int .i64 0]) (aA (cs:=Ver.cells ⟨x.name,!WI,0,PP,WW⟩) rfl _ _ _ _ _ rfl rfl (lJ (ae z0 (.inl dI.out)) (ae z1 (.inl dI.out)) (ae z2 (.inl dI.out)) (ae z3 (.inl dI.out)) (ae z4 (.inl dI.out))) Tryz.underlying68 rfl (by kernel_rfl)) rfl ⟨rfl,((((((nP.out.setCell (by simp;omega) _).setCell (by simp;omega) _).setCell (by simp;omega) _).setCell (by simp;omega) _).setCell (by simp;omega) _).setCell (by simp;omega) _)⟩
theorem Jt:
  Calls Tryz.prog 30 #[.agg (ax x A n c A' n' c' aY n'' c'').toArray,.agg #[.string rn,.slice A1 n1 c1,.slice Ak nk ck,.slice A3 n3 c3],.agg #[.string on,.slice A2 n2 c2,.slice Al nl cl,.slice A4 n4 c4],.slice A5 n5 c5] w
   λe w'=>e=.returned (.tuple #[.agg (di x cols ocols rows orows zs).2.cells.toArray,.int .i64 (di x cols ocols rows orows zs).1])/\Below w.heap.size w w':=by
 by_cases hE:aI x cols ocols rows orows zs=0
 ·cases k5:(x.kind==5)
  ·cases k6:(x.kind==6)
   ·exact Gh w x A n c hn A' n' c' hn' aY n'' c'' hq hw rn A1 n1 c1 cols hc Ak nk ck A3 n3 c3 rows hr on A2 n2 c2 ocols ho Al nl cl A4 n4 c4 orows hor A5 n5 c5 zs hz hb0 hb1 hb2 hb3 hE k5 k6
   ·exact wS w x A n c hn A' n' c' hn' aY n'' c'' hq hw rn A1 n1 c1 cols hc Ak nk ck A3 n3 c3 rows hr on A2 n2 c2 ocols ho Al nl cl A4 n4 c4 orows hor A5 n5 c5 zs hz hb0 hb1 hb2 hb3 hE k5 k6
  ·exact Ew w x A n c hn A' n' c' hn' aY n'' c'' hq hw rn A1 n1 c1 cols hc Ak nk ck A3 n3 c3 rows hr on A2 n2 c2 ocols ho Al nl cl A4 n4 c4 orows hor A5 n5 c5 zs hz hb0 hb1 hb2 hb3 hE k5
 ·exact Ju w x A n c hn A' n' c' hn' aY n'' c'' hq hw rn A1 n1 c1 cols hc Ak nk ck A3 n3 c3 rows hr on A2 n2 c2 ocols ho Al nl cl A4 n4 c4 orows hor A5 n5 c5 zs hz hb0 hb1 hb2 hb3 _ rfl hE
end
end Go.Proofs.YtggejcekmehocaaGreatDoor
