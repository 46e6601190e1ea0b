/-
  warehouseref28.Judge. (Printed by gen_jdr.py.) warehouselaw28.light, ints. (Printed by gen_l28.py.)
-/
import Derived.Deep.DeepCutAuto
import Derived.Test.YtggejcekmehocaaGreatDoorGbb
import Derived.Test.YtggejcekmehocaaGreatDoorGba
import Derived.Test.YtggejcekmehocaaGreatDoorJdg
import Derived.Test.YtggejcekmehocaaGreatDoorGal
import Derived.Test.YtggejcekmehocaaGreatDoorGai
import Derived.Test.YtggejcekmehocaaGreatDoorGac
import Derived.Test.YtggejcekmehocaaGreatDoorGar
namespace Go.Proofs.YtggejcekmehocaaGreatDoor
set_option maxHeartbeats 4000000
set_option maxRecDepth 100000
open Go.RowKit Go.Maps
set_option linter.unusedSimpArgs false
set_option linter.unusedVariables false
def U9 (w:World)(g:Nat)(l:List Value):Prop:= ∀j v,l[j]?=some v->w.cell? ⟨g,j,none⟩=some v
theorem U9.below {w w1:World}{g B:Nat}{l:List Value}(h:U9 w g l)(hg:g<B)(hb:Below B w w1):U9 w1 g l:=λj v hv=>(hb.cell (p:=⟨g,j,none⟩) hg).trans (h j v hv)
theorem TT {w:World}{g:Nat}{v0 v1 v2 v3 v4 v5 v6 v7 v8 v9 v10 v11 v12 v13:Value}(h0:w.cell? ⟨g,0,none⟩=some v0)(h1:w.cell? ⟨g,1,none⟩=some v1)(h2:w.cell? ⟨g,2,none⟩=some v2)(h3:w.cell? ⟨g,3,none⟩=some v3)(h4:w.cell? ⟨g,4,none⟩=some v4)(h5:w.cell? ⟨g,5,none⟩=some v5)(h6:w.cell? ⟨g,6,none⟩=some v6)(h7:w.cell? ⟨g,7,none⟩=some v7)(h8:w.cell? ⟨g,8,none⟩=some v8)(h9:w.cell? ⟨g,9,none⟩=some v9)(h10:w.cell? ⟨g,10,none⟩=some v10)(h11:w.cell? ⟨g,11,none⟩=some v11)(h12:w.cell? ⟨g,12,none⟩=some v12)(h13:w.cell? ⟨g,13,none⟩=some v13):U9 w g [v0,v1,v2,v3,v4,v5,v6,v7,v8,v9,v10,v11,v12,v13]:=by
 intro j v hv
 match j,hv with
 | 0,hv=>simp at hv;subst hv;exact h0
 | 1,hv=>simp at hv;subst hv;exact h1
 | 2,hv=>simp at hv;subst hv;exact h2
 | 3,hv=>simp at hv;subst hv;exact h3
 | 4,hv=>simp at hv;subst hv;exact h4
 | 5,hv=>simp at hv;subst hv;exact h5
 | 6,hv=>simp at hv;subst hv;exact h6
 | 7,hv=>simp at hv;subst hv;exact h7
 | 8,hv=>simp at hv;subst hv;exact h8
 | 9,hv=>simp at hv;subst hv;exact h9
 | 10,hv=>simp at hv;subst hv;exact h10
 | 11,hv=>simp at hv;subst hv;exact h11
 | 12,hv=>simp at hv;subst hv;exact h12
 | 13,hv=>simp at hv;subst hv;exact h13
theorem VerAt.set2 {w:World}{g:Nat}{v:Ver}(h:VerAt w g v)(p:Int):VerAt (w.setCell ⟨g,2,none⟩ (.int .i64 p)) g {v with rows:=p}:=
 ⟨ae h.c0 (.inr (by omega)),ae h.c1 (.inr (by omega)),bU h.c2,ae h.c3 (.inr (by omega)),ae h.c4 (.inr (by omega)),kS h.fz _ _ _⟩
theorem VerAt.drew {w:World}{g:Nat}{v:Ver}(h:VerAt w g v):VerAt w.drew g v:=h.below (Below.refl _ _).drew
section
variable (w:World)(x:Chk)(A:Option Addr)(n c:Nat)(hn:In w A n c x.cols)(A':Option Addr)(n' c':Nat)(hn':In w A' n' c' x.ocols)(aY:Option Addr)(n'' c'':Nat)(hq:In w aY n'' c'' x.cond)(rn:ByteArray)(A1:Option Addr)(n1 c1:Nat)(cols:List Col)(hc:In w A1 n1 c1 cols)(Ak:Option Addr)(nk ck:Nat)(A3:Option Addr)(n3 c3:Nat)(rows:List Ent)(hr:In w A3 n3 c3 rows)(on:ByteArray)(A2:Option Addr)(n2 c2:Nat)(ocols:List Col)(ho:In w A2 n2 c2 ocols)(Al:Option Addr)(nl cl:Nat)(A4:Option Addr)(n4 c4:Nat)(orows:List Ent)(hor:In w A4 n4 c4 orows)(A5:Option Addr)(n5 c5:Nat)(zs:List Zone)(hz:In w A5 n5 c5 zs)(hb0:n<=4096)(hb1:n'<=4096)(hb2:n1<=4096)(hb3:n2<=4096)
include w x A n c hn A' n' c' hn' aY n'' c'' hq rn A1 n1 c1 cols hc Ak nk ck A3 n3 c3 rows hr on A2 n2 c2 ocols ho Al nl cl A4 n4 c4 orows hor A5 n5 c5 zs hz hb0 hb1 hb2 hb3
theorem Eu (E:Int)(hE:aI x cols ocols rows orows zs=E)(hE0:¬E=0):
  Calls Tryz.prog 31 #[.agg (ax x A n c A' n' c' aY n'' c'').toArray,.agg #[.string rn,.slice A1 n1 c1,.slice Ak nk ck,.slice A3 n3 c3],.agg #[.string on,.slice A2 n2 c2,.slice Al nl cl,.slice A4 n4 c4],.slice A5 n5 c5] w
   λe w'=>e=.returned (.tuple #[.agg (di x cols ocols rows orows zs).2.cells.toArray,.int .i64 (di x cols ocols rows orows zs).1])/\Below w.heap.size w w':=by
 have qF:=hide λW hn hn' hq hc hr ho hor hz=>iG W x A n c hn A' n' c' hn' aY n'' c'' hq rn A1 n1 c1 cols hc Ak nk ck A3 n3 c3 rows hr on A2 n2 c2 ocols ho Al nl cl A4 n4 c4 orows hor A5 n5 c5 zs hz hb0 hb1 hb2 hb3
 have HD:=hide (show di x cols ocols rows orows zs=if aI x cols ocols rows orows zs≠0 then (aI x cols ocols rows orows zs,mQ) else (0,lN x cols ocols rows orows zs) from rfl)
 have rW:=hide (show (bG x cols ocols rows orows zs).1=aI x cols ocols rows orows zs from by rw[bG];split <;> simp_all)
 have uk:=hide (show lN x cols ocols rows orows zs=if x.kind=5 then ⟨x.name,!dX (aH (rows.filter λy=>bB x.cond cols y.row zs)) (aH rows) x.ln x.ld x.mn x.md,0,aH (rows.filter λy=>bB x.cond cols y.row zs),aH rows⟩
  else if x.kind=6 then ⟨x.name,aK (bM cols x.cols) rows != aK (bM ocols x.ocols) orows,0,aK (bM cols x.cols) rows,aK (bM ocols x.ocols) orows⟩
  else ⟨x.name,decide (0<aH (bG x cols ocols rows orows zs).2),aH (bG x cols ocols rows orows zs).2,0,0⟩ from rfl)
 obtain ⟨J,hJ⟩: ∃J,di x cols ocols rows orows zs=J:=⟨_,rfl⟩
 obtain ⟨VR,tN⟩: ∃J,lN x cols ocols rows orows zs=J:=⟨_,rfl⟩
 rw[hJ,tN]at HD
 rw[tN]at uk
 rw[hJ]
 obtain ⟨VL,qP⟩: ∃l,(bG x cols ocols rows orows zs).2=l:=⟨_,rfl⟩
 rw[qP]at uk qF
 have Dx:=hide qP
 clear hJ tN qP
 rw[hE]at HD rW
 clear hE
 simp only[ax]at qF⊢
 go_enter Tryz.func31,Tryz.ntmps31
 have HN:=hide hn
 clear hn
 have eT:=hide hn'
 clear hn'
 have HQ:=hide hq
 clear hq
 have HC:=hide hc
 clear hc
 have HO:=hide ho
 clear ho
 have HZ:=hide hz
 clear hz
 have HR:=hide hr
 clear hr
 have kr:=hide hor
 clear hor
 go_wp2_with fail
 obtain ⟨W3,hW3,d9,bR,o1⟩:=dm w x A n c A' n' c' aY n'' c'' rn A1 n1 c1 Ak nk ck A3 n3 c3 on A2 n2 c2 Al nl cl A4 n4 c4
 rw[<-hW3]
 clear hW3
 have fK:=hide bR
 clear bR
 obtain ⟨W4,jb⟩: ∃W,W=W3.alloc (.cells #[.string ⟨#[]⟩,.bool false,.int .i64 0,.int .i64 0,.int .i64 0] 68):=⟨_,rfl⟩
 obtain ⟨fI,mZ,z0,z1,z2,z3,z4⟩:=ky (b:=w.heap.size+1+1+1) jb (by rw[d9.out])
 have fM:Hid (bH W4 (w.heap.size+1+1+1) 68 5):=hide (by rw[<-d9.out,jb];exact bH.made _ _ _ _ rfl)
 rw[<-jb]
 clear jb
 have oO:=hide fI
 clear fI
 have L4:=lt_of_cell z0
 obtain ⟨⟨LR,g0,g1,g2,g3,g4,g5,g6,g7,g8,g9,g10,g11,g12,g13⟩,⟨L2,r0,r1,r2,r3⟩,L3,s0,s1,s2,s3⟩:=o1.out _ oO.out
 go_wp2_with fail
 have Bg:=hide (aa fK.out oO.out)
 refine (qF.out _ (HN.out.below Bg.out) (eT.out.below Bg.out) (HQ.out.below Bg.out) (HC.out.below Bg.out) (HR.out.below Bg.out) (HO.out.below Bg.out) (kr.out.below Bg.out) (HZ.out.below Bg.out)).mono ?_
 rintro e w4 ⟨⟨bv,rfl,hol⟩,hb4⟩
 have o6:=lX (jF g0 g1 g2 g3 g4 g5 g6 g7 g8 g9 g10 g11 g12 g13) (lX (jI r0 r1 r2 r3) (lX (jI s0 s1 s2 s3) (xG z0 z1 z2 z3 z4)))
 have kv:=hide hb4
 clear hb4
 rw[rW.out]
 obtain ⟨Ab,cb,rfl,hib⟩:=pU hol
 obtain ⟨mb,hmb⟩: ∃m,VL.length=m:=⟨_,rfl⟩
 rw[hmb]at hib⊢
 clear hol hmb
 have IA:=hide hib
 clear hib
 have q0:(E != 0)=true:=by simpa using hE0
 have HJ:Hid (J=(E,mQ)):=hide (by rw[HD.out,if_pos hE0])
 obtain rfl:=HJ.out
 have y0:=(fM.out.below kv.out).frozen 0
 have y1:=(fM.out.below kv.out).frozen 1
 have y2:=(fM.out.below kv.out).frozen 2
 have y3:=(fM.out.below kv.out).frozen 3
 have y4:=(fM.out.below kv.out).frozen 4
 have nP:=hide (aa (aa fK.out oO.out) kv.out)
 obtain ⟨⟨LR,g0,g1,g2,g3,g4,g5,g6,g7,g8,g9,g10,g11,g12,g13⟩,⟨L2,r0,r1,r2,r3⟩,⟨L3,s0,s1,s2,s3⟩,L4,z0,z1,z2,z3,z4⟩:=o6.out _ kv.out
 go_wp2
 refine bodyPost_ret (v:=.tuple #[.agg mQ.cells.toArray,.int .i64 E]) (aA (cs:=mQ.cells) rfl _ _ _ _ _ rfl rfl (lJ z0 z1 z2 z3 z4) Tryz.underlying68 rfl (by kernel_rfl)) rfl ⟨rfl,((((nP.out.setCell (by simp;omega) _).setCell (by simp;omega) _).setCell (by simp;omega) _).setCell (by simp;omega) _).setCell (by simp;omega) _⟩
theorem CQ (hE:aI x cols ocols rows orows zs=0)(k5:(x.kind==5)=false)(k6:(x.kind==6)=false):
  Calls Tryz.prog 31 #[.agg (ax x A n c A' n' c' aY n'' c'').toArray,.agg #[.string rn,.slice A1 n1 c1,.slice Ak nk ck,.slice A3 n3 c3],.agg #[.string on,.slice A2 n2 c2,.slice Al nl cl,.slice A4 n4 c4],.slice A5 n5 c5] w
   λe w'=>e=.returned (.tuple #[.agg (di x cols ocols rows orows zs).2.cells.toArray,.int .i64 (di x cols ocols rows orows zs).1])/\Below w.heap.size w w':=by
 have qF:=hide λW hn hn' hq hc hr ho hor hz=>iG W x A n c hn A' n' c' hn' aY n'' c'' hq rn A1 n1 c1 cols hc Ak nk ck A3 n3 c3 rows hr on A2 n2 c2 ocols ho Al nl cl A4 n4 c4 orows hor A5 n5 c5 zs hz hb0 hb1 hb2 hb3
 have HD:=hide (show di x cols ocols rows orows zs=if aI x cols ocols rows orows zs≠0 then (aI x cols ocols rows orows zs,mQ) else (0,lN x cols ocols rows orows zs) from rfl)
 have rW:=hide (show (bG x cols ocols rows orows zs).1=aI x cols ocols rows orows zs from by rw[bG];split <;> simp_all)
 have uk:=hide (show lN x cols ocols rows orows zs=if x.kind=5 then ⟨x.name,!dX (aH (rows.filter λy=>bB x.cond cols y.row zs)) (aH rows) x.ln x.ld x.mn x.md,0,aH (rows.filter λy=>bB x.cond cols y.row zs),aH rows⟩
  else if x.kind=6 then ⟨x.name,aK (bM cols x.cols) rows != aK (bM ocols x.ocols) orows,0,aK (bM cols x.cols) rows,aK (bM ocols x.ocols) orows⟩
  else ⟨x.name,decide (0<aH (bG x cols ocols rows orows zs).2),aH (bG x cols ocols rows orows zs).2,0,0⟩ from rfl)
 obtain ⟨J,hJ⟩: ∃J,di x cols ocols rows orows zs=J:=⟨_,rfl⟩
 obtain ⟨VR,tN⟩: ∃J,lN x cols ocols rows orows zs=J:=⟨_,rfl⟩
 rw[hJ,tN]at HD
 rw[tN]at uk
 rw[hJ]
 obtain ⟨VL,qP⟩: ∃l,(bG x cols ocols rows orows zs).2=l:=⟨_,rfl⟩
 rw[qP]at uk qF
 have Dx:=hide qP
 clear hJ tN qP
 obtain ⟨hE1,hE2,kM⟩:=dR hE
 obtain ⟨hk,hcz,dN⟩:=fw hE1
 obtain ⟨hbz,htz,hrz⟩:=bA hE2
 have HJ:Hid (J=(0,VR)):=hide (by rw[HD.out,if_neg (by rw[hE];simp)])
 have Dy:Hid (VL=rows.filter λy=>cO x cols ocols rows orows zs y.row):=hide (by rw[<-Dx.out,bG,if_neg (by rw[hE];simp)])
 have ND:=hide hbz
 rw[hE]at rW
 clear hE hE1 hE2 kM hk hcz dN hbz htz hrz HD
 simp only[ax]at qF⊢
 go_enter Tryz.func31,Tryz.ntmps31
 have HN:=hide hn
 clear hn
 have eT:=hide hn'
 clear hn'
 have HQ:=hide hq
 clear hq
 have HC:=hide hc
 clear hc
 have HO:=hide ho
 clear ho
 have HZ:=hide hz
 clear hz
 have HR:=hide hr
 clear hr
 have kr:=hide hor
 clear hor
 go_wp2_with fail
 obtain ⟨W3,hW3,d9,bR,o8⟩:=dm w x A n c A' n' c' aY n'' c'' rn A1 n1 c1 Ak nk ck A3 n3 c3 on A2 n2 c2 Al nl cl A4 n4 c4
 rw[<-hW3]
 clear hW3
 have uy:=hide bR
 clear bR
 obtain ⟨W4,jb⟩: ∃W,W=W3.alloc (.cells #[.string ⟨#[]⟩,.bool false,.int .i64 0,.int .i64 0,.int .i64 0] 68):=⟨_,rfl⟩
 obtain ⟨fI,mZ,z0,z1,z2,z3,z4⟩:=ky (b:=w.heap.size+1+1+1) jb (by rw[d9.out])
 have fM:Hid (bH W4 (w.heap.size+1+1+1) 68 5):=hide (by rw[<-d9.out,jb];exact bH.made _ _ _ _ rfl)
 rw[<-jb]
 clear jb
 have fZ:=hide fI
 clear fI
 have L4:=lt_of_cell z0
 obtain ⟨⟨LR,g0,g1,g2,g3,g4,g5,g6,g7,g8,g9,g10,g11,g12,g13⟩,⟨L2,r0,r1,r2,r3⟩,L3,s0,s1,s2,s3⟩:=o8.out _ fZ.out
 go_wp2_with fail
 have lq:=hide (aa uy.out fZ.out)
 refine (qF.out _ (HN.out.below lq.out) (eT.out.below lq.out) (HQ.out.below lq.out) (HC.out.below lq.out) (HR.out.below lq.out) (HO.out.below lq.out) (kr.out.below lq.out) (HZ.out.below lq.out)).mono ?_
 rintro e Nf ⟨⟨bv,rfl,hol⟩,kN⟩
 have Gx:=lX (jF g0 g1 g2 g3 g4 g5 g6 g7 g8 g9 g10 g11 g12 g13) (lX (jI r0 r1 r2 r3) (lX (jI s0 s1 s2 s3) (xG z0 z1 z2 z3 z4)))
 have mW:=hide kN
 clear kN
 rw[rW.out]
 obtain ⟨Ab,cb,rfl,hib⟩:=pU hol
 obtain ⟨mb,hmb⟩: ∃m,VL.length=m:=⟨_,rfl⟩
 rw[hmb]at hib⊢
 clear hol hmb
 have IA:=hide hib
 clear hib
 have Ai:Hid (VR=⟨x.name,decide (0<aH VL),aH VL,0,0⟩):=hide (by rw[uk.out,if_neg (by simpa using k5),if_neg (by simpa using k6)])
 have HLEN:=hide IA.out.len
 have h63:=IA.out.le
 have vF:=hide (Ci ND.out)
 have SH:Hid (∀z∈VL,z∈rows):=hide λz hz=>by rw[Dy.out]at hz;exact (List.mem_filter.1 hz).1
 have ZV:mb<=4096:=by
  have h1:=HLEN.out
  rw[Dy.out]at h1
  have h2:=List.length_filter_le (λy=>cO x cols ocols rows orows zs y.row) rows
  have h3:=vF.out.1
  omega
 have q0:((0:Int) != 0)=false:=by decide
 obtain ⟨⟨LR,g0,g1,g2,g3,g4,g5,g6,g7,g8,g9,g10,g11,g12,g13⟩,⟨L2,r0,r1,r2,r3⟩,⟨L3,s0,s1,s2,s3⟩,L4,z0,z1,z2,z3,z4⟩:=Gx.out _ mW.out
 have dI:=hide (show ¬w.heap.size+1+1+1=Nf.heap.size from by have:=L4;(try simp at this);omega)
 go_wp2_with fail
 obtain ⟨WB,rfl⟩: ∃W,W=Nf:=⟨_,rfl⟩
 have KJ:=hide (aa (aa uy.out fZ.out) mW.out).size
 obtain ⟨W6,qB⟩: ∃W,W=WB.alloc (.cells #[.string x.name,.bool false,.int .i64 0,.int .i64 0,.int .i64 0] 68):=⟨_,rfl⟩
 obtain ⟨ng,IP,v0,v1,v2,v3,v4⟩:=ky qB rfl
 have Kc:Hid (∀o,W6.frozen? ⟨WB.heap.size,o,none⟩=false):=hide (λo=>by rw[qB];exact frozen_of_row _ _ o _ _ (heap_alloc_new _ _))
 have xD:Hid (bH W6 (WB.heap.size) 68 5):=hide (by rw[qB];exact bH.made _ _ _ _ rfl)
 rw[<-qB]
 clear qB
 have KP:=hide ng
 clear ng
 have Tc:Hid (VerAt W6 WB.heap.size ⟨x.name,false,0,0,0⟩):=hide ⟨v0,v1,v2,v3,v4,Kc.out⟩
 clear v0 v1 v2 v3 v4
 have YJ:=hide IA.out
 have qx:=hide (show ¬w.heap.size=WB.heap.size from by have:=LR;omega)
 go_wp2
 go_loopg [14] mb (λleft i wr=> ∃k:Nat,k+left=mb/\i=.int .i64 k/\VerAt wr WB.heap.size ⟨x.name,false,aH (VL.take k),0,0⟩/\Below WB.heap.size WB wr)
 case atStart=>exact ⟨0,by omega,rfl,Tc.out,KP.out⟩
 case round=>
  obtain ⟨k,hk,rfl,hv,hb⟩:=hrel
  have HV:=hide hv
  clear hv
  have kL:=hide hb
  clear hb
  have l9:=hide kL.out
  by_cases hlt:k<mb
  ·obtain ⟨b,off,y,rfl,qy,HX,Ax,An,Ac,f0,f1,e2,e3⟩:=YJ.out.ent hlt
   have hBb:b<wr.heap.size:=Nat.lt_of_lt_of_le qy l9.out.size
   have e1:=ah l9.out qy f1
   have k0:(0:Int)<=(k:Int):=by omega
   have k1:(k:Int)<(mb:Int):=by omega
   have Sb:=vF.out.2 y (SH.out y (aM HX.out))
   have En:=oK (l:=VL.take k) (C:=65536) λz hz=>vF.out.2 z (SH.out z (List.mem_of_mem_take hz))
   have hlk:(VL.take k).length<=4096:=by rw[List.length_take];omega
   have HW1:Hid (aH (VL.take (k+1))=aH (VL.take k)+y.count):=hide (by rw[bP HX.out,lK];simp[aH])
   obtain ⟨FW,P6⟩: ∃q,aH (VL.take k)=q:=⟨_,rfl⟩
   rw[P6]at En HW1 HV
   have hwr:IntKind.i64.wrap (FW+y.count)=FW+y.count:=IntWalk.i64_in _ (by omega)
   obtain ⟨v0,v1,v2,v3,v4,fz⟩:=HV.out
   have f2:=fz 2
   have Ux:=HV.out.lt
   clear Sb En hlk P6 f0 f1 e2 v0 v1 v3 v4 fz
   have VY:=hide (aa mW.out kL.out)
   obtain ⟨⟨LR,g0,g1,g2,g3,g4,g5,g6,g7,g8,g9,g10,g11,g12,g13⟩,⟨L2,r0,r1,r2,r3⟩,⟨L3,s0,s1,s2,s3⟩,L4,z0,z1,z2,z3,z4⟩:=Gx.out _ VY.out
   go_upto_region 9 with (fail)
   go_region
   all_goals
    go_wp2
    go_roundg (gk-1)
    case measure=>omega
    case rel=>exact ⟨k+1,by omega,by go_num,by rw[HW1.out];first|exact HV.out.drew.set2 _|exact (HV.out.below (below_drewN (Below.refl _ _) _)).set2 _,by first|exact (l9.out.drew).setCell (Nat.le_refl _) _|exact (below_drewN l9.out _).setCell (Nat.le_refl _) _⟩
  ·have HT:Hid (VL.take k=VL):=hide (List.take_of_length_le (by rw[HLEN.out];omega))
   have hv2:=HV.out
   rw[HT.out]at hv2
   obtain ⟨N,hN⟩: ∃N,aH VL=N:=⟨_,rfl⟩
   rw[hN]at Ai hv2
   clear hN HT
   have hgl:=hv2.lt
   obtain ⟨v0,v1,v2,v3,v4,fz⟩:=hv2
   have x0:=fz 0
   have x1:=fz 1
   have x2:=fz 2
   have x3:=fz 3
   have x4:=fz 4
   have IC:=dI.out
   have qD:=hide (aa mW.out kL.out)
   have y0:=(fM.out.below qD.out).frozen 0
   have y1:=(fM.out.below qD.out).frozen 1
   have y2:=(fM.out.below qD.out).frozen 2
   have y3:=(fM.out.below qD.out).frozen 3
   have y4:=(fM.out.below qD.out).frozen 4
   have nP:=hide (aa (aa (aa uy.out fZ.out) mW.out) kL.out)
   have hws:=KJ.out
   obtain ⟨⟨LR,g0,g1,g2,g3,g4,g5,g6,g7,g8,g9,g10,g11,g12,g13⟩,⟨L2,r0,r1,r2,r3⟩,⟨L3,s0,s1,s2,s3⟩,L4,z0,z1,z2,z3,z4⟩:=Gx.out _ qD.out
   go_wp2
   obtain rfl:=HJ.out
   obtain rfl:=Ai.out
   refine bodyPost_ret (v:=.tuple #[.agg (Ver.cells ⟨x.name,decide (0<N),N,0,0⟩).toArray,.int .i64 0]) (aA (cs:=Ver.cells ⟨x.name,decide (0<N),N,0,0⟩) rfl _ _ _ _ _ rfl rfl (lJ (ae z0 (.inl dI.out)) (ae z1 (.inl dI.out)) (ae z2 (.inl dI.out)) (ae z3 (.inl dI.out)) (ae z4 (.inl dI.out))) Tryz.underlying68 rfl (by kernel_rfl)) rfl ⟨rfl,((((((nP.out.setCell (by simp;omega) _).setCell (by simp;omega) _).setCell (by simp;omega) _).setCell (by simp;omega) _).setCell (by simp;omega) _).setCell (by simp;omega) _)⟩
theorem AC (hE:aI x cols ocols rows orows zs=0)(k5:(x.kind==5)=true):
  Calls Tryz.prog 31 #[.agg (ax x A n c A' n' c' aY n'' c'').toArray,.agg #[.string rn,.slice A1 n1 c1,.slice Ak nk ck,.slice A3 n3 c3],.agg #[.string on,.slice A2 n2 c2,.slice Al nl cl,.slice A4 n4 c4],.slice A5 n5 c5] w
   λe w'=>e=.returned (.tuple #[.agg (di x cols ocols rows orows zs).2.cells.toArray,.int .i64 (di x cols ocols rows orows zs).1])/\Below w.heap.size w w':=by
 have qF:=hide λW hn hn' hq hc hr ho hor hz=>iG W x A n c hn A' n' c' hn' aY n'' c'' hq rn A1 n1 c1 cols hc Ak nk ck A3 n3 c3 rows hr on A2 n2 c2 ocols ho Al nl cl A4 n4 c4 orows hor A5 n5 c5 zs hz hb0 hb1 hb2 hb3
 have HD:=hide (show di x cols ocols rows orows zs=if aI x cols ocols rows orows zs≠0 then (aI x cols ocols rows orows zs,mQ) else (0,lN x cols ocols rows orows zs) from rfl)
 have rW:=hide (show (bG x cols ocols rows orows zs).1=aI x cols ocols rows orows zs from by rw[bG];split <;> simp_all)
 have uk:=hide (show lN x cols ocols rows orows zs=if x.kind=5 then ⟨x.name,!dX (aH (rows.filter λy=>bB x.cond cols y.row zs)) (aH rows) x.ln x.ld x.mn x.md,0,aH (rows.filter λy=>bB x.cond cols y.row zs),aH rows⟩
  else if x.kind=6 then ⟨x.name,aK (bM cols x.cols) rows != aK (bM ocols x.ocols) orows,0,aK (bM cols x.cols) rows,aK (bM ocols x.ocols) orows⟩
  else ⟨x.name,decide (0<aH (bG x cols ocols rows orows zs).2),aH (bG x cols ocols rows orows zs).2,0,0⟩ from rfl)
 obtain ⟨J,hJ⟩: ∃J,di x cols ocols rows orows zs=J:=⟨_,rfl⟩
 obtain ⟨VR,tN⟩: ∃J,lN x cols ocols rows orows zs=J:=⟨_,rfl⟩
 rw[hJ,tN]at HD
 rw[tN]at uk
 rw[hJ]
 obtain ⟨VL,qP⟩: ∃l,(bG x cols ocols rows orows zs).2=l:=⟨_,rfl⟩
 rw[qP]at uk qF
 have Dx:=hide qP
 clear hJ tN qP
 obtain ⟨hE1,hE2,kM⟩:=dR hE
 obtain ⟨hk,hcz,dN⟩:=fw hE1
 obtain ⟨hbz,htz,hrz⟩:=bA hE2
 have HJ:Hid (J=(0,VR)):=hide (by rw[HD.out,if_neg (by rw[hE];simp)])
 have Dy:Hid (VL=rows.filter λy=>cO x cols ocols rows orows zs y.row):=hide (by rw[<-Dx.out,bG,if_neg (by rw[hE];simp)])
 have ND:=hide hbz
 rw[hE]at rW
 have RU:=hide (show x.kind=5 by simpa using k5)
 have vF:=hide (Ci hbz)
 clear hE hE1 hE2 kM hk hcz dN hbz htz hrz HD
 simp only[ax]at qF⊢
 go_enter Tryz.func31,Tryz.ntmps31
 have HN:=hide hn
 clear hn
 have eT:=hide hn'
 clear hn'
 have HQ:=hide hq
 clear hq
 have HC:=hide hc
 clear hc
 have HO:=hide ho
 clear ho
 have HZ:=hide hz
 clear hz
 have HR:=hide hr
 clear hr
 have kr:=hide hor
 clear hor
 go_wp2_with fail
 obtain ⟨W3,hW3,d9,bR,UN⟩:=dm w x A n c A' n' c' aY n'' c'' rn A1 n1 c1 Ak nk ck A3 n3 c3 on A2 n2 c2 Al nl cl A4 n4 c4
 rw[<-hW3]
 clear hW3
 have gp:=hide bR
 clear bR
 obtain ⟨W4,jb⟩: ∃W,W=W3.alloc (.cells #[.string ⟨#[]⟩,.bool false,.int .i64 0,.int .i64 0,.int .i64 0] 68):=⟨_,rfl⟩
 obtain ⟨fI,mZ,z0,z1,z2,z3,z4⟩:=ky (b:=w.heap.size+1+1+1) jb (by rw[d9.out])
 have fM:Hid (bH W4 (w.heap.size+1+1+1) 68 5):=hide (by rw[<-d9.out,jb];exact bH.made _ _ _ _ rfl)
 rw[<-jb]
 clear jb
 have jW:=hide fI
 clear fI
 have L4:=lt_of_cell z0
 obtain ⟨⟨LR,g0,g1,g2,g3,g4,g5,g6,g7,g8,g9,g10,g11,g12,g13⟩,⟨L2,r0,r1,r2,r3⟩,L3,s0,s1,s2,s3⟩:=UN.out _ jW.out
 go_wp2_with fail
 have xy:=hide (aa gp.out jW.out)
 refine (qF.out _ (HN.out.below xy.out) (eT.out.below xy.out) (HQ.out.below xy.out) (HC.out.below xy.out) (HR.out.below xy.out) (HO.out.below xy.out) (kr.out.below xy.out) (HZ.out.below xy.out)).mono ?_
 rintro e U6 ⟨⟨bv,rfl,hol⟩,lV⟩
 have Sg:=lX (jF g0 g1 g2 g3 g4 g5 g6 g7 g8 g9 g10 g11 g12 g13) (lX (jI r0 r1 r2 r3) (lX (jI s0 s1 s2 s3) (xG z0 z1 z2 z3 z4)))
 have il:=hide lV
 clear lV
 rw[rW.out]
 obtain ⟨Ab,cb,rfl,hib⟩:=pU hol
 obtain ⟨mb,hmb⟩: ∃m,VL.length=m:=⟨_,rfl⟩
 rw[hmb]at hib⊢
 clear hol hmb
 have IA:=hide hib
 clear hib
 have Ai:Hid (VR=⟨x.name,!dX (aH (rows.filter λy=>bB x.cond cols y.row zs)) (aH rows) x.ln x.ld x.mn x.md,0,aH (rows.filter λy=>bB x.cond cols y.row zs),aH rows⟩):=hide (by rw[uk.out,if_pos RU.out])
 have Sz:=hide λW hq hc Ar nr cr row hr hz=>Bp W x A n c A' n' c' aY n'' c'' hq A1 n1 c1 cols hc A5 n5 c5 zs hz Ar nr cr row hr
 simp only[ax]at Sz
 have q0:((0:Int) != 0)=false:=by decide
 obtain ⟨⟨LR,g0,g1,g2,g3,g4,g5,g6,g7,g8,g9,g10,g11,g12,g13⟩,⟨L2,r0,r1,r2,r3⟩,⟨L3,s0,s1,s2,s3⟩,L4,z0,z1,z2,z3,z4⟩:=Sg.out _ il.out
 have dI:=hide (show ¬w.heap.size+1+1+1=U6.heap.size from by have:=L4;(try simp at this);omega)
 go_wp2_with fail
 obtain ⟨WB,rfl⟩: ∃W,W=U6:=⟨_,rfl⟩
 have KJ:=hide (aa (aa gp.out jW.out) il.out).size
 have nO:=hide (aa (aa gp.out jW.out) il.out)
 have BQ:=hide (HQ.out.below nO.out)
 have BC:=hide (HC.out.below nO.out)
 have BR:=hide (HR.out.below nO.out)
 have BZ:=hide (HZ.out.below nO.out)
 have HLEN:=hide HR.out.len
 have h63:=HR.out.le
 have Rp:n3<=4096:=by rw[<-HLEN.out];exact vF.out.1
 have qx:=hide (show ¬w.heap.size=WB.heap.size from by have:=LR;omega)
 have kK:=hide (show ¬w.heap.size+1=WB.heap.size from by have:=L2;omega)
 have PD:=hide (TT g0 g1 g2 g3 g4 g5 g6 g7 g8 g9 g10 g11 g12 g13)
 have Ty:=hide r1
 have Yq:=hide r3
 have Yp:=hide LR
 have PX:=hide L2
 obtain ⟨W6,qB⟩: ∃W,W=WB.alloc (.cells #[.string x.name,.bool false,.int .i64 0,.int .i64 0,.int .i64 0] 68):=⟨_,rfl⟩
 obtain ⟨ng,IP,v0,v1,v2,v3,v4⟩:=ky qB rfl
 have Kc:Hid (∀o,W6.frozen? ⟨WB.heap.size,o,none⟩=false):=hide (λo=>by rw[qB];exact frozen_of_row _ _ o _ _ (heap_alloc_new _ _))
 have xD:Hid (bH W6 (WB.heap.size) 68 5):=hide (by rw[qB];exact bH.made _ _ _ _ rfl)
 rw[<-qB]
 clear qB
 have KP:=hide ng
 clear ng
 have Tc:Hid (VerAt W6 WB.heap.size ⟨x.name,false,0,0,0⟩):=hide ⟨v0,v1,v2,v3,v4,Kc.out⟩
 clear v0 v1 v2 v3 v4
 go_wp2
 go_loopg [13] n3 (λleft i wr=> ∃k:Nat,k+left=n3/\i=.int .i64 k/\VerAt wr WB.heap.size ⟨x.name,false,0,aH ((rows.take k).filter λy=>bB x.cond cols y.row zs),aH (rows.take k)⟩/\Below WB.heap.size WB wr)
 case atStart=>exact ⟨0,by omega,rfl,Tc.out,KP.out⟩
 case round=>
  obtain ⟨k,hk,rfl,hv,hb⟩:=hrel
  have HV:=hide hv
  clear hv
  have K8:=hide hb
  clear hb
  have l9:=hide K8.out
  have jk:=hide (aa (aa (aa gp.out jW.out) il.out) K8.out)
  by_cases hlt:k<n3
  ·obtain ⟨b,off,y,rfl,qy,HX,Ax,An,Ac,f0,f1,e2,e3⟩:=BR.out.ent hlt
   have hBb:b<wr.heap.size:=Nat.lt_of_lt_of_le qy l9.out.size
   have e1:=ah l9.out qy f1
   have k0:(0:Int)<=(k:Int):=by omega
   have k1:(k:Int)<(n3:Int):=by omega
   have HRW:=hide e2
   have Sb:=vF.out.2 y (aM HX.out)
   have En:=oK (l:=rows.take k) (C:=65536) λz hz=>vF.out.2 z (List.mem_of_mem_take hz)
   have Mf:=oK (l:=(rows.take k).filter λy=>bB x.cond cols y.row zs) (C:=65536) λz hz=>vF.out.2 z (List.mem_of_mem_take (List.mem_filter.1 hz).1)
   have hlk:(rows.take k).length<=4096:=by rw[List.length_take];omega
   have hlk2:((rows.take k).filter λy=>bB x.cond cols y.row zs).length<=4096:=Nat.le_trans (List.length_filter_le _ _) hlk
   have HW1:Hid (aH (rows.take (k+1))=aH (rows.take k)+y.count):=hide (by rw[bP HX.out,lK];simp[aH])
   have NL:Hid (aH ((rows.take (k+1)).filter λy=>bB x.cond cols y.row zs)=aH ((rows.take k).filter λy=>bB x.cond cols y.row zs)+(if bB x.cond cols y.row zs=true then y.count else 0)):=hide (by
    rw[bP HX.out,List.filter_append,lK]
    by_cases hq:bB x.cond cols y.row zs=true
    ·simp[hq,aH]
    ·simp[hq,aH])
   obtain ⟨FW,P6⟩: ∃q,aH (rows.take k)=q:=⟨_,rfl⟩
   obtain ⟨FP,TZ⟩: ∃q,aH ((rows.take k).filter λy=>bB x.cond cols y.row zs)=q:=⟨_,rfl⟩
   rw[P6]at En HW1 HV
   rw[TZ]at Mf NL HV
   have hwr:IntKind.i64.wrap (FW+y.count)=FW+y.count:=IntWalk.i64_in _ (by omega)
   have hwr2:IntKind.i64.wrap (FP+y.count)=FP+y.count:=IntWalk.i64_in _ (by omega)
   obtain ⟨hB,Rm⟩: ∃q,bB x.cond cols y.row zs=q:=⟨_,rfl⟩
   rw[Rm]at NL
   have Wp:=hide Rm
   obtain ⟨v0,v1,v2,v3,v4,fz⟩:=HV.out
   have f4:=fz 4
   have Ux:=HV.out.lt
   have F0:=hide f0
   have F1:=hide f1
   have Qi:=hide qy
   have WO:=hide hwr2
   clear Sb En Mf hlk hlk2 P6 TZ Rm e2 v0 v1 v2 v3 fz f0 f1 hwr2
   have Qg:=hide (aa il.out K8.out)
   obtain ⟨⟨LR,g0,g1,g2,g3,g4,g5,g6,g7,g8,g9,g10,g11,g12,g13⟩,⟨L2,r0,r1,r2,r3⟩,⟨L3,s0,s1,s2,s3⟩,L4,z0,z1,z2,z3,z4⟩:=Sg.out _ Qg.out
   go_upto_region 15 with (fail)
   go_cut [60] (λt wx=>VerAt wx WB.heap.size ⟨x.name,false,0,FP,FW+y.count⟩/\Below WB.heap.size WB wx)
   case first=>
    go_region
    all_goals
     go_wp2_with fail
     go_meet
     case rel=>exact ⟨by first|exact HV.out.drew.set4 _|exact (HV.out.below (below_drewN (Below.refl _ _) _)).set4 _,by first|exact (l9.out.drew).setCell (Nat.le_refl _) _|exact (below_drewN l9.out _).setCell (Nat.le_refl _) _⟩
   case rest=>
    obtain ⟨Mm,gP⟩:=hcut
    have RY:=hide Mm
    have Fz:=hide gP
    clear Mm gP v4 f4
    have e0:=ah Fz.out Qi.out F0.out
    have r1:=ah Fz.out PX.out Ty.out
    have r3:=ah Fz.out PX.out Yq.out
    have kI:=hide (PD.out.below Yp.out Fz.out)
    have g0:=kI.out 0 _ rfl
    have g1:=kI.out 1 _ rfl
    have g2:=kI.out 2 _ rfl
    have g3:=kI.out 3 _ rfl
    have g4:=kI.out 4 _ rfl
    have g5:=kI.out 5 _ rfl
    have g6:=kI.out 6 _ rfl
    have g7:=kI.out 7 _ rfl
    have g8:=kI.out 8 _ rfl
    have g9:=kI.out 9 _ rfl
    have g10:=kI.out 10 _ rfl
    have g11:=kI.out 11 _ rfl
    have g12:=kI.out 12 _ rfl
    have g13:=kI.out 13 _ rfl
    obtain ⟨W9,rfl⟩: ∃W,W=wc:=⟨_,rfl⟩
    have Wq:=hide (Nat.lt_of_lt_of_le Qi.out Fz.out.size)
    have HR1:=hide r1
    have HR3:=hide r3
    have jR:=hide e0
    have uj:=hide (Nat.lt_of_lt_of_le Yp.out Fz.out.size)
    have SE:=hide (Nat.lt_of_lt_of_le PX.out Fz.out.size)
    have Qn:=hide λW h1 h2 h3 h4=>Sz.out W h1 h2 Ax An Ac y.row h3 h4
    rw[Wp.out]at Qn
    go_upto_region 16 with (fail)
    go_cut [80] (λt wx=>t=.bool hB/\Below W9.heap.size W9 wx)
    case first=>
     go_region_held3 (λV=>V.cell? ⟨w.heap.size,0,none⟩=some (.string x.name)/\V.cell? ⟨w.heap.size,1,none⟩=some (.string x.table)/\V.cell? ⟨w.heap.size,2,none⟩=some (.int .i64 x.kind)/\V.cell? ⟨w.heap.size,3,none⟩=some (.slice A n c)/\V.cell? ⟨w.heap.size,4,none⟩=some (.string x.other)/\V.cell? ⟨w.heap.size,5,none⟩=some (.slice A' n' c')/\V.cell? ⟨w.heap.size,6,none⟩=some (.int .i64 x.low)/\V.cell? ⟨w.heap.size,7,none⟩=some (.int .i64 x.high)/\V.cell? ⟨w.heap.size,8,none⟩=some (.slice aY n'' c'')/\V.cell? ⟨w.heap.size,9,none⟩=some (.int .i64 x.ln)/\V.cell? ⟨w.heap.size,10,none⟩=some (.int .i64 x.ld)/\V.cell? ⟨w.heap.size,11,none⟩=some (.int .i64 x.mn)/\V.cell? ⟨w.heap.size,12,none⟩=some (.int .i64 x.md)/\V.cell? ⟨w.heap.size,13,none⟩=some (.int .i64 x.policy)/\V.cell? ⟨w.heap.size+1,1,none⟩=some (.slice A1 n1 c1)/\V.cell? ⟨w.heap.size+1,3,none⟩=some (.slice (some ⟨b,off,none⟩) n3 c3)/\V.cell? ⟨b,off+k*2,none⟩=some (.slice Ax An Ac))
      (first|exact ⟨kI.out.below uj.out lu.out 0 _ rfl,kI.out.below uj.out lu.out 1 _ rfl,kI.out.below uj.out lu.out 2 _ rfl,kI.out.below uj.out lu.out 3 _ rfl,kI.out.below uj.out lu.out 4 _ rfl,kI.out.below uj.out lu.out 5 _ rfl,kI.out.below uj.out lu.out 6 _ rfl,kI.out.below uj.out lu.out 7 _ rfl,kI.out.below uj.out lu.out 8 _ rfl,kI.out.below uj.out lu.out 9 _ rfl,kI.out.below uj.out lu.out 10 _ rfl,kI.out.below uj.out lu.out 11 _ rfl,kI.out.below uj.out lu.out 12 _ rfl,kI.out.below uj.out lu.out 13 _ rfl,ah lu.out SE.out HR1.out,ah lu.out SE.out HR3.out,ah lu.out Wq.out jR.out⟩|exact ⟨g0,g1,g2,g3,g4,g5,g6,g7,g8,g9,g10,g11,g12,g13,r1,r3,e0⟩|go_keep)
      (first|(go_at_call 68;refine (Qn.out _ (by exact BQ.out.below Fz.out.drew) (by exact BC.out.below Fz.out.drew) (by exact HRW.out.below Fz.out.drew) (by exact BZ.out.below Fz.out.drew)).mono ?_;rintro e VQ ⟨rfl,qY⟩;have lu:=hide (ag qY);clear qY))
     go_wp2_with fail
     go_meet
     case rel=>exact ⟨rfl,lu.out⟩
    case rest=>
     obtain ⟨rfl,qY⟩:=hcut
     have KH:=hide (RY.out.below qY)
     have FI:=hide (Fz.out.trans (qY.mono Fz.out.size))
     clear qY Qn e0 r1 r3 g0 g1 g2 g3 g4 g5 g6 g7 g8 g9 g10 g11 g12 g13
     cases hB
     ·have FJ:Hid (VerAt wc WB.heap.size ⟨x.name,false,0,aH ((rows.take (k+1)).filter λy=>bB x.cond cols y.row zs),aH (rows.take (k+1))⟩):=hide (by rw[NL.out,HW1.out];simpa using KH.out)
      go_wp2
      go_roundg (gk-1)
      case measure=>omega
      case rel=>exact ⟨k+1,by omega,by go_num,FJ.out,FI.out⟩
     ·have e1:=ah FI.out Qi.out F1.out
      have r3:=ah FI.out PX.out Yq.out
      obtain ⟨v0,v1,v2,v3,v4,fz⟩:=KH.out
      have f3:=fz 3
      have Uw:=KH.out.lt
      have hwr2:=WO.out
      clear v0 v1 v2 v4 fz
      go_upto_region 17 with (fail)
      go_region
      all_goals
       go_wp2
       go_roundg (gk-1)
       case measure=>omega
       case rel=>exact ⟨k+1,by omega,by go_num,by rw[NL.out,HW1.out];first|exact KH.out.drew.set3 _|exact (KH.out.below (below_drewN (Below.refl _ _) _)).set3 _,by first|exact (FI.out.drew).setCell (Nat.le_refl _) _|exact (below_drewN FI.out _).setCell (Nat.le_refl _) _⟩
  ·have HT:Hid (rows.take k=rows):=hide (List.take_of_length_le (by rw[HLEN.out];omega))
   have hv2:=HV.out
   rw[HT.out]at hv2
   obtain ⟨PP,Ua⟩: ∃q,aH (rows.filter λy=>bB x.cond cols y.row zs)=q:=⟨_,rfl⟩
   obtain ⟨WW,Uc⟩: ∃q,aH rows=q:=⟨_,rfl⟩
   rw[Ua,Uc]at hv2 Ai
   have PM:=hide hv2
   obtain ⟨v0,v1,v2,v3,v4,fz⟩:=hv2
   have Te:=hide λW=>Fu W PP WW x.ln x.ld x.mn x.md
   obtain ⟨WI,Cz⟩: ∃q,dX PP WW x.ln x.ld x.mn x.md=q:=⟨_,rfl⟩
   rw[Cz]at Te Ai
   have hgl:=PM.out.lt
   clear Ua Uc Cz v0 v1 v2 fz HT
   have Ae:=hide (aa il.out K8.out)
   obtain ⟨⟨LR,g0,g1,g2,g3,g4,g5,g6,g7,g8,g9,g10,g11,g12,g13⟩,⟨L2,r0,r1,r2,r3⟩,⟨L3,s0,s1,s2,s3⟩,L4,z0,z1,z2,z3,z4⟩:=Sg.out _ Ae.out
   go_wp2_with fail
   refine (Te.out _).mono ?_
   rintro e YF ⟨rfl,CG⟩
   have Tt:=hide CG
   have oV:=hide (aa K8.out CG)
   clear CG
   clear v3 v4
   have hv3:=PM.out.below Tt.out
   have hgl:=hv3.lt
   obtain ⟨v0,v1,v2,v3,v4,fz⟩:=hv3
   have x0:=fz 0
   have x1:=fz 1
   have x2:=fz 2
   have x3:=fz 3
   have x4:=fz 4
   have IC:=dI.out
   have qo:=hide (aa il.out oV.out)
   have y0:=(fM.out.below qo.out).frozen 0
   have y1:=(fM.out.below qo.out).frozen 1
   have y2:=(fM.out.below qo.out).frozen 2
   have y3:=(fM.out.below qo.out).frozen 3
   have y4:=(fM.out.below qo.out).frozen 4
   have nP:=hide (aa (aa (aa gp.out jW.out) il.out) oV.out)
   have hws:=KJ.out
   obtain ⟨⟨LR,g0,g1,g2,g3,g4,g5,g6,g7,g8,g9,g10,g11,g12,g13⟩,⟨L2,r0,r1,r2,r3⟩,⟨L3,s0,s1,s2,s3⟩,L4,z0,z1,z2,z3,z4⟩:=Sg.out _ qo.out
   go_wp2
   obtain rfl:=HJ.out
   obtain rfl:=Ai.out
   refine bodyPost_ret (v:=.tuple #[.agg (Ver.cells ⟨x.name,!WI,0,PP,WW⟩).toArray,.int .i64 0]) (aA (cs:=Ver.cells ⟨x.name,!WI,0,PP,WW⟩) rfl _ _ _ _ _ rfl rfl (lJ (ae z0 (.inl dI.out)) (ae z1 (.inl dI.out)) (ae z2 (.inl dI.out)) (ae z3 (.inl dI.out)) (ae z4 (.inl dI.out))) Tryz.underlying68 rfl (by kernel_rfl)) rfl ⟨rfl,((((((nP.out.setCell (by simp;omega) _).setCell (by simp;omega) _).setCell (by simp;omega) _).setCell (by simp;omega) _).setCell (by simp;omega) _).setCell (by simp;omega) _)⟩
theorem AJ (hE:aI x cols ocols rows orows zs=0)(k5:(x.kind==5)=false)(k6:(x.kind==6)=true):
  Calls Tryz.prog 31 #[.agg (ax x A n c A' n' c' aY n'' c'').toArray,.agg #[.string rn,.slice A1 n1 c1,.slice Ak nk ck,.slice A3 n3 c3],.agg #[.string on,.slice A2 n2 c2,.slice Al nl cl,.slice A4 n4 c4],.slice A5 n5 c5] w
   λe w'=>e=.returned (.tuple #[.agg (di x cols ocols rows orows zs).2.cells.toArray,.int .i64 (di x cols ocols rows orows zs).1])/\Below w.heap.size w w':=by
 have qF:=hide λW hn hn' hq hc hr ho hor hz=>iG W x A n c hn A' n' c' hn' aY n'' c'' hq rn A1 n1 c1 cols hc Ak nk ck A3 n3 c3 rows hr on A2 n2 c2 ocols ho Al nl cl A4 n4 c4 orows hor A5 n5 c5 zs hz hb0 hb1 hb2 hb3
 have HD:=hide (show di x cols ocols rows orows zs=if aI x cols ocols rows orows zs≠0 then (aI x cols ocols rows orows zs,mQ) else (0,lN x cols ocols rows orows zs) from rfl)
 have rW:=hide (show (bG x cols ocols rows orows zs).1=aI x cols ocols rows orows zs from by rw[bG];split <;> simp_all)
 have uk:=hide (show lN x cols ocols rows orows zs=if x.kind=5 then ⟨x.name,!dX (aH (rows.filter λy=>bB x.cond cols y.row zs)) (aH rows) x.ln x.ld x.mn x.md,0,aH (rows.filter λy=>bB x.cond cols y.row zs),aH rows⟩
  else if x.kind=6 then ⟨x.name,aK (bM cols x.cols) rows != aK (bM ocols x.ocols) orows,0,aK (bM cols x.cols) rows,aK (bM ocols x.ocols) orows⟩
  else ⟨x.name,decide (0<aH (bG x cols ocols rows orows zs).2),aH (bG x cols ocols rows orows zs).2,0,0⟩ from rfl)
 obtain ⟨J,hJ⟩: ∃J,di x cols ocols rows orows zs=J:=⟨_,rfl⟩
 obtain ⟨VR,tN⟩: ∃J,lN x cols ocols rows orows zs=J:=⟨_,rfl⟩
 rw[hJ,tN]at HD
 rw[tN]at uk
 rw[hJ]
 obtain ⟨VL,qP⟩: ∃l,(bG x cols ocols rows orows zs).2=l:=⟨_,rfl⟩
 rw[qP]at uk qF
 have Dx:=hide qP
 clear hJ tN qP
 obtain ⟨hE1,hE2,kM⟩:=dR hE
 obtain ⟨hk,hcz,dN⟩:=fw hE1
 obtain ⟨hbz,htz,hrz⟩:=bA hE2
 have HJ:Hid (J=(0,VR)):=hide (by rw[HD.out,if_neg (by rw[hE];simp)])
 have Dy:Hid (VL=rows.filter λy=>cO x cols ocols rows orows zs y.row):=hide (by rw[<-Dx.out,bG,if_neg (by rw[hE];simp)])
 have ND:=hide hbz
 rw[hE]at rW
 have Mh:x.kind=6:=by simpa using k6
 obtain ⟨hi1,hp1,_,ho1⟩:=dN (by rw[iE,Mh];rfl)
 obtain ⟨_,hi2,hl2⟩:=ho1 (by rw[iL,Mh];rfl)
 have HT1:=hide hE2
 have HT2:=hide (kM (by rw[iL,Mh];rfl))
 have Qv:=hide (fC hi1).2.1
 have Qw:=hide (fC hi2).2.1
 have Kq:=hide hp1
 have Kr:=hide (show 0<x.ocols.length by omega)
 have SB:=hide Mh
 clear hE hE1 hE2 kM hk hcz dN hbz htz hrz HD Mh hi1 hp1 ho1 hi2 hl2
 simp only[ax]at qF⊢
 go_enter Tryz.func31,Tryz.ntmps31
 have HN:=hide hn
 clear hn
 have eT:=hide hn'
 clear hn'
 have HQ:=hide hq
 clear hq
 have HC:=hide hc
 clear hc
 have HO:=hide ho
 clear ho
 have HZ:=hide hz
 clear hz
 have HR:=hide hr
 clear hr
 have kr:=hide hor
 clear hor
 go_wp2_with fail
 obtain ⟨W3,hW3,d9,bR,o32⟩:=dm w x A n c A' n' c' aY n'' c'' rn A1 n1 c1 Ak nk ck A3 n3 c3 on A2 n2 c2 Al nl cl A4 n4 c4
 rw[<-hW3]
 clear hW3
 have NW:=hide bR
 clear bR
 obtain ⟨W4,jb⟩: ∃W,W=W3.alloc (.cells #[.string ⟨#[]⟩,.bool false,.int .i64 0,.int .i64 0,.int .i64 0] 68):=⟨_,rfl⟩
 obtain ⟨fI,mZ,z0,z1,z2,z3,z4⟩:=ky (b:=w.heap.size+1+1+1) jb (by rw[d9.out])
 have fM:Hid (bH W4 (w.heap.size+1+1+1) 68 5):=hide (by rw[<-d9.out,jb];exact bH.made _ _ _ _ rfl)
 rw[<-jb]
 clear jb
 have lw:=hide fI
 clear fI
 have L4:=lt_of_cell z0
 obtain ⟨⟨LR,g0,g1,g2,g3,g4,g5,g6,g7,g8,g9,g10,g11,g12,g13⟩,⟨L2,r0,r1,r2,r3⟩,L3,s0,s1,s2,s3⟩:=o32.out _ lw.out
 go_wp2_with fail
 have tq:=hide (aa NW.out lw.out)
 refine (qF.out _ (HN.out.below tq.out) (eT.out.below tq.out) (HQ.out.below tq.out) (HC.out.below tq.out) (HR.out.below tq.out) (HO.out.below tq.out) (kr.out.below tq.out) (HZ.out.below tq.out)).mono ?_
 rintro e Px ⟨⟨bv,rfl,hol⟩,Md⟩
 have Z9:=lX (jF g0 g1 g2 g3 g4 g5 g6 g7 g8 g9 g10 g11 g12 g13) (lX (jI r0 r1 r2 r3) (lX (jI s0 s1 s2 s3) (xG z0 z1 z2 z3 z4)))
 have yA:=hide Md
 clear Md
 rw[rW.out]
 obtain ⟨Ab,cb,rfl,hib⟩:=pU hol
 obtain ⟨mb,hmb⟩: ∃m,VL.length=m:=⟨_,rfl⟩
 rw[hmb]at hib⊢
 clear hol hmb
 have IA:=hide hib
 clear hib
 have n0:0<n:=by rw[<-HN.out.len];exact Kq.out
 have UM:0<n':=by rw[<-eT.out.len];exact Kr.out
 have Sk:=hide (aa (aa NW.out lw.out) yA.out)
 obtain ⟨bn,un,nA,rfl,hbn,Tg,m0,FO⟩:=(HN.out.below Sk.out).str n0
 obtain ⟨bm,um,nB,rfl,Nn,Tf,m1,cZ⟩:=(eT.out.below Sk.out).str UM
 rw[Nat.add_zero]at m0 m1
 have U7:(0:Int)<(n:Int):=by omega
 have z02:(0:Int)<(n':Int):=by omega
 have Ke:Hid (index cols nA=(bM cols x.cols:Int)/\bM cols x.cols<cols.length):=hide (by
  have h1:=Qv.out nA (aM Tg.out)
  rw[bM,dW Tg.out]
  omega)
 have Kg:Hid (index ocols nB=(bM ocols x.ocols:Int)/\bM ocols x.ocols<ocols.length):=hide (by
  have h1:=Qw.out nB (aM Tf.out)
  rw[bM,dW Tf.out]
  omega)
 have Ai:Hid (VR=⟨x.name,aK (bM cols x.cols) rows != aK (bM ocols x.ocols) orows,0,aK (bM cols x.cols) rows,aK (bM ocols x.ocols) orows⟩):=hide (by rw[uk.out,if_neg (by rw[SB.out];decide),if_pos SB.out])
 obtain ⟨⟨LR,g0,g1,g2,g3,g4,g5,g6,g7,g8,g9,g10,g11,g12,g13⟩,⟨L2,r0,r1,r2,r3⟩,⟨L3,s0,s1,s2,s3⟩,L4,z0,z1,z2,z3,z4⟩:=Z9.out _ yA.out
 have qx:=hide (show ¬w.heap.size=Px.heap.size from by have:=LR;(try simp at this);omega)
 have kK:=hide (show ¬w.heap.size+1=Px.heap.size from by have:=L2;(try simp at this);omega)
 have lS:=hide (show ¬w.heap.size+1+1=Px.heap.size from by have:=L3;(try simp at this);omega)
 have FQ:=hide (show ¬bn=Px.heap.size from by omega)
 have yw:=hide (show ¬bm=Px.heap.size from by omega)
 have LM:=lt_of_cell m0
 have Tp:=lt_of_cell m1
 have q0:((0:Int) != 0)=false:=by decide
 have dI:=hide (show ¬w.heap.size+1+1+1=Px.heap.size from by have:=L4;(try simp at this);omega)
 go_wp2_with fail
 obtain ⟨W6,qB⟩: ∃W,W=Px.alloc (.cells #[.string x.name,.bool false,.int .i64 0,.int .i64 0,.int .i64 0] 68):=⟨_,rfl⟩
 obtain ⟨ng,IP,v0,v1,v2,v3,v4⟩:=ky qB rfl
 have xD:Hid (bH W6 (Px.heap.size) 68 5):=hide (by rw[qB];exact bH.made _ _ _ _ rfl)
 rw[<-qB]
 clear qB
 have o40:=lX (jF g0 g1 g2 g3 g4 g5 g6 g7 g8 g9 g10 g11 g12 g13) (lX (jI r0 r1 r2 r3) (lX (jI s0 s1 s2 s3) (lX (xG z0 z1 z2 z3 z4) (lX (uE m0) (uE m1)))))
 have tH:=hide ng
 clear ng
 have L6:=lt_of_cell v0
 obtain ⟨Q1,Ub⟩: ∃q,aK (bM cols x.cols) rows=q:=⟨_,rfl⟩
 obtain ⟨Q2,O4⟩: ∃q,aK (bM ocols x.ocols) orows=q:=⟨_,rfl⟩
 have Ta:=hide λW h1 h2=>xq W rn A1 n1 c1 cols h1 Ak nk ck A3 n3 c3 rows h2 nA FO _ Ke.out.1 Ke.out.2 HT1.out hb2
 have QB:=hide λW h1 h2=>xq W on A2 n2 c2 ocols h1 Al nl cl A4 n4 c4 orows h2 nB cZ _ Kg.out.1 Kg.out.2 HT2.out hb3
 rw[Ub]at Ta Ai
 rw[O4]at QB Ai
 clear Ub O4
 obtain ⟨⟨LR,g0,g1,g2,g3,g4,g5,g6,g7,g8,g9,g10,g11,g12,g13⟩,⟨L2,r0,r1,r2,r3⟩,⟨L3,s0,s1,s2,s3⟩,⟨L4,z0,z1,z2,z3,z4⟩,⟨LM,m0⟩,Tp,m1⟩:=o40.out _ tH.out
 have KW:=hide r0
 have DJ:=hide r1
 have KY:=hide r2
 have KZ:=hide r3
 have K3:=hide s0
 have K4:=hide s1
 have K5:=hide s2
 have K6:=hide s3
 have KS:=hide g3
 have KT:=hide g5
 have NT:=hide m0
 have NU:=hide m1
 have qj:=hide LR
 have ni:=hide L2
 have qi:=hide L3
 have NS:=hide LM
 have Cf:=hide Tp
 have WY:=hide v0
 have WZ:=hide v1
 have Xa:=hide v2
 have Xb:=hide v3
 have Xc:=hide v4
 have IL:=hide L6
 have Xd:=hide z0
 have Xe:=hide z1
 have Xf:=hide z2
 have Xg:=hide z3
 have Xh:=hide z4
 have KQ:=hide L4
 have R4:=hide (aa (aa (aa NW.out lw.out) yA.out) tH.out)
 go_wp2
 have Jy:True:=trivial
 have Iw:=hide (aa (aa (aa NW.out lw.out) yA.out) tH.out)
 go_region_held3 (λV=>V.cell? ⟨w.heap.size+1,0,none⟩=some (.string rn)/\V.cell? ⟨w.heap.size+1,1,none⟩=some (.slice A1 n1 c1)/\V.cell? ⟨w.heap.size+1,2,none⟩=some (.slice Ak nk ck)/\V.cell? ⟨w.heap.size+1,3,none⟩=some (.slice A3 n3 c3)/\V.cell? ⟨w.heap.size+1+1,0,none⟩=some (.string on)/\V.cell? ⟨w.heap.size+1+1,1,none⟩=some (.slice A2 n2 c2)/\V.cell? ⟨w.heap.size+1+1,2,none⟩=some (.slice Al nl cl)/\V.cell? ⟨w.heap.size+1+1,3,none⟩=some (.slice A4 n4 c4)/\V.cell? ⟨w.heap.size,3,none⟩=some (.slice (some ⟨bn,un,none⟩) n c)/\V.cell? ⟨w.heap.size,5,none⟩=some (.slice (some ⟨bm,um,none⟩) n' c')/\V.cell? ⟨bn,un,none⟩=some (.string nA)/\V.cell? ⟨bm,um,none⟩=some (.string nB)) (first|exact ⟨ae (ae (ah fG.out ni.out KW.out) (.inl kK.out)) (.inl kK.out),ae (ae (ah fG.out ni.out DJ.out) (.inl kK.out)) (.inl kK.out),ae (ae (ah fG.out ni.out KY.out) (.inl kK.out)) (.inl kK.out),ae (ae (ah fG.out ni.out KZ.out) (.inl kK.out)) (.inl kK.out),ae (ae (ah fG.out qi.out K3.out) (.inl lS.out)) (.inl lS.out),ae (ae (ah fG.out qi.out K4.out) (.inl lS.out)) (.inl lS.out),ae (ae (ah fG.out qi.out K5.out) (.inl lS.out)) (.inl lS.out),ae (ae (ah fG.out qi.out K6.out) (.inl lS.out)) (.inl lS.out),ae (ae (ah fG.out qj.out KS.out) (.inl qx.out)) (.inl qx.out),ae (ae (ah fG.out qj.out KT.out) (.inl qx.out)) (.inl qx.out),ae (ae (ah fG.out NS.out NT.out) (.inl FQ.out)) (.inl FQ.out),ae (ae (ah fG.out Cf.out NU.out) (.inl yw.out)) (.inl yw.out)⟩|exact ⟨ae (ah fG.out ni.out KW.out) (.inl kK.out),ae (ah fG.out ni.out DJ.out) (.inl kK.out),ae (ah fG.out ni.out KY.out) (.inl kK.out),ae (ah fG.out ni.out KZ.out) (.inl kK.out),ae (ah fG.out qi.out K3.out) (.inl lS.out),ae (ah fG.out qi.out K4.out) (.inl lS.out),ae (ah fG.out qi.out K5.out) (.inl lS.out),ae (ah fG.out qi.out K6.out) (.inl lS.out),ae (ah fG.out qj.out KS.out) (.inl qx.out),ae (ah fG.out qj.out KT.out) (.inl qx.out),ae (ah fG.out NS.out NT.out) (.inl FQ.out),ae (ah fG.out Cf.out NU.out) (.inl yw.out)⟩|exact ⟨ah fG.out ni.out KW.out,ah fG.out ni.out DJ.out,ah fG.out ni.out KY.out,ah fG.out ni.out KZ.out,ah fG.out qi.out K3.out,ah fG.out qi.out K4.out,ah fG.out qi.out K5.out,ah fG.out qi.out K6.out,ah fG.out qj.out KS.out,ah fG.out qj.out KT.out,ah fG.out NS.out NT.out,ah fG.out Cf.out NU.out⟩|exact ⟨ah ik.out ni.out KW.out,ah ik.out ni.out DJ.out,ah ik.out ni.out KY.out,ah ik.out ni.out KZ.out,ah ik.out qi.out K3.out,ah ik.out qi.out K4.out,ah ik.out qi.out K5.out,ah ik.out qi.out K6.out,ah ik.out qj.out KS.out,ah ik.out qj.out KT.out,ah ik.out NS.out NT.out,ah ik.out Cf.out NU.out⟩|exact ⟨r0,r1,r2,r3,s0,s1,s2,s3,g3,g5,m0,m1⟩|go_keep) (first|(clear Jy;go_at_call 70;refine (Ta.out _ (by exact (HC.out.below Iw.out).below (Below.refl _ _).drew) (by exact (HR.out.below Iw.out).below (Below.refl _ _).drew)).mono ?_;rintro e w7 ⟨rfl,dC⟩;have ik:=hide (ag dC);clear dC;have ED:True:=trivial)|(clear ED;go_at_call 70;refine (QB.out _ (by exact (HO.out.below Iw.out).below ik.out) (by exact (kr.out.below Iw.out).below ik.out)).mono ?_;rintro e w8 ⟨rfl,uR⟩;have fG:=hide (aa ik.out uR);have v0:=ah fG.out IL.out WY.out;have v1:=ah fG.out IL.out WZ.out;have v2:=ah fG.out IL.out Xa.out;have v3:=ah fG.out IL.out Xb.out;have v4:=ah fG.out IL.out Xc.out;have Kv:=hide (xD.out.below fG.out);have x0:=Kv.out.frozen 0;have x1:=Kv.out.frozen 1;have x2:=Kv.out.frozen 2;have x3:=Kv.out.frozen 3;have x4:=Kv.out.frozen 4;clear uR;have Nq:True:=trivial))
 all_goals
  have V7:=hide (aa yA.out tH.out)
  have yu:=hide ((fM.out.below V7.out).below fG.out)
  have y0:=yu.out.frozen 0
  have y1:=yu.out.frozen 1
  have y2:=yu.out.frozen 2
  have y3:=yu.out.frozen 3
  have y4:=yu.out.frozen 4
  have z0:=ah fG.out KQ.out Xd.out
  have z1:=ah fG.out KQ.out Xe.out
  have z2:=ah fG.out KQ.out Xf.out
  have z3:=ah fG.out KQ.out Xg.out
  have z4:=ah fG.out KQ.out Xh.out
  have IC:=dI.out
  have nP:=hide (aa R4.out fG.out)
  have hgl:=IL.out
  go_wp2
  obtain rfl:=HJ.out
  obtain rfl:=Ai.out
  refine bodyPost_ret (v:=.tuple #[.agg (Ver.cells ⟨x.name,Q1 != Q2,0,Q1,Q2⟩).toArray,.int .i64 0]) (aA (cs:=Ver.cells ⟨x.name,Q1 != Q2,0,Q1,Q2⟩) rfl _ _ _ _ _ rfl rfl (lJ (ae (ae (ae z0 (.inl dI.out)) (.inl dI.out)) (.inl dI.out)) (ae (ae (ae z1 (.inl dI.out)) (.inl dI.out)) (.inl dI.out)) (ae (ae (ae z2 (.inl dI.out)) (.inl dI.out)) (.inl dI.out)) (ae (ae (ae z3 (.inl dI.out)) (.inl dI.out)) (.inl dI.out)) (ae (ae (ae z4 (.inl dI.out)) (.inl dI.out)) (.inl dI.out))) Tryz.underlying68 rfl (by kernel_rfl)) rfl ⟨rfl,((((((((nP.out.setCell (by simp;omega) _).setCell (by simp;omega) _).setCell (by simp;omega) _).setCell (by simp;omega) _).setCell (by simp;omega) _).setCell (by simp;omega) _).setCell (by simp;omega) _).setCell (by simp;omega) _)⟩
theorem Ev:
  Calls Tryz.prog 31 #[.agg (ax x A n c A' n' c' aY n'' c'').toArray,.agg #[.string rn,.slice A1 n1 c1,.slice Ak nk ck,.slice A3 n3 c3],.agg #[.string on,.slice A2 n2 c2,.slice Al nl cl,.slice A4 n4 c4],.slice A5 n5 c5] w
   λe w'=>e=.returned (.tuple #[.agg (di x cols ocols rows orows zs).2.cells.toArray,.int .i64 (di x cols ocols rows orows zs).1])/\Below w.heap.size w w':=by
 by_cases hE:aI x cols ocols rows orows zs=0
 ·cases k5:(x.kind==5)
  ·cases k6:(x.kind==6)
   ·exact CQ w x A n c hn A' n' c' hn' aY n'' c'' hq rn A1 n1 c1 cols hc Ak nk ck A3 n3 c3 rows hr on A2 n2 c2 ocols ho Al nl cl A4 n4 c4 orows hor A5 n5 c5 zs hz hb0 hb1 hb2 hb3 hE k5 k6
   ·exact AJ w x A n c hn A' n' c' hn' aY n'' c'' hq rn A1 n1 c1 cols hc Ak nk ck A3 n3 c3 rows hr on A2 n2 c2 ocols ho Al nl cl A4 n4 c4 orows hor A5 n5 c5 zs hz hb0 hb1 hb2 hb3 hE k5 k6
  ·exact AC w x A n c hn A' n' c' hn' aY n'' c'' hq rn A1 n1 c1 cols hc Ak nk ck A3 n3 c3 rows hr on A2 n2 c2 ocols ho Al nl cl A4 n4 c4 orows hor A5 n5 c5 zs hz hb0 hb1 hb2 hb3 hE k5
 ·exact Eu w x A n c hn A' n' c' hn' aY n'' c'' hq rn A1 n1 c1 cols hc Ak nk ck A3 n3 c3 rows hr on A2 n2 c2 ocols ho Al nl cl A4 n4 c4 orows hor A5 n5 c5 zs hz hb0 hb1 hb2 hb3 _ rfl hE
end
theorem F4:Elem Tryz.prog 59 74 3 32:=uM _ Tryz.underlying59 mR rfl (by decide)
theorem tC.no {e:Ending}{P:Prop}(h:e=.returned (.bool false)):tC e P:=⟨false,h,λq=>by cases q⟩
theorem tC.of {e:Ending}{P:Prop}{b:Bool}(hp:P)(h:e=.returned (.bool b)):tC e P:=⟨b,h,λ_=>hp⟩
theorem EC (w:World)(x:Chk)(A:Option Addr)(n c:Nat)(hn:In w A n c x.cols)(A':Option Addr)(n' c':Nat)(hn':In w A' n' c' x.ocols)(aY:Option Addr)(n'' c'':Nat)(hq:In w aY n'' c'' x.cond)(rn:ByteArray)(A1:Option Addr)(n1 c1:Nat)(cols:List Col)(hc:In w A1 n1 c1 cols)(Ak:Option Addr)(nk ck:Nat)(A3:Option Addr)(n3 c3:Nat)(rows:List Ent)(hr:In w A3 n3 c3 rows)(on:ByteArray)(A2:Option Addr)(n2 c2:Nat)(ocols:List Col)(ho:In w A2 n2 c2 ocols)(Al:Option Addr)(nl cl:Nat)(A4:Option Addr)(n4 c4:Nat)(orows:List Ent)(hor:In w A4 n4 c4 orows)(A5:Option Addr)(n5 c5:Nat)(zs:List Zone)(hz:In w A5 n5 c5 zs):
  Calls Tryz.prog 27 #[.agg (ax x A n c A' n' c' aY n'' c'').toArray,.agg #[.string rn,.slice A1 n1 c1,.slice Ak nk ck,.slice A3 n3 c3],.agg #[.string on,.slice A2 n2 c2,.slice Al nl cl,.slice A4 n4 c4],.slice A5 n5 c5] w
   λe w'=>tC e (n<=16/\n'<=16/\n1<=16/\n2<=16)/\Below w.heap.size w w':=by
 have l0:=hn.le
 have l1:=hn'.le
 have l2:=hq.le
 have l3:=hc.le
 have l4:=ho.le
 have l5:=hz.le
 by_cases q0:16<n
 ·have d0:(16:Int)<(n:Int):=by omega
  have HR:=hide hr
  clear hr
  have kr:=hide hor
  clear hor
  have HZ:=hide hz
  clear hz
  simp only[ax]
  go_enter Tryz.func27,Tryz.ntmps27
  go_wp2_with fail
  obtain ⟨W3,hW3,d9,bR,o1⟩:=dm w x A n c A' n' c' aY n'' c'' rn A1 n1 c1 Ak nk ck A3 n3 c3 on A2 n2 c2 Al nl cl A4 n4 c4
  rw[<-hW3]
  clear hW3
  have fK:=hide bR
  clear bR
  obtain ⟨⟨LR,g0,g1,g2,g3,g4,g5,g6,g7,g8,g9,g10,g11,g12,g13⟩,⟨L2,r0,r1,r2,r3⟩,L3,s0,s1,s2,s3⟩:=o1.out _ (Below.refl _ _)
  go_wp2
  all_goals (try (exfalso;go_light;simp_all;done))
  go_ret
  exact ⟨tC.no rfl,fK.out⟩
 have d0:¬(16:Int)<(n:Int):=by omega
 by_cases q1:16<n'
 ·have d1:(16:Int)<(n':Int):=by omega
  have HR:=hide hr
  clear hr
  have kr:=hide hor
  clear hor
  have HZ:=hide hz
  clear hz
  simp only[ax]
  go_enter Tryz.func27,Tryz.ntmps27
  go_wp2_with fail
  obtain ⟨W3,hW3,d9,bR,o3⟩:=dm w x A n c A' n' c' aY n'' c'' rn A1 n1 c1 Ak nk ck A3 n3 c3 on A2 n2 c2 Al nl cl A4 n4 c4
  rw[<-hW3]
  clear hW3
  have jH:=hide bR
  clear bR
  obtain ⟨⟨LR,g0,g1,g2,g3,g4,g5,g6,g7,g8,g9,g10,g11,g12,g13⟩,⟨L2,r0,r1,r2,r3⟩,L3,s0,s1,s2,s3⟩:=o3.out _ (Below.refl _ _)
  go_wp2
  all_goals (try (exfalso;go_light;simp_all;done))
  go_ret
  exact ⟨tC.no rfl,jH.out⟩
 have d1:¬(16:Int)<(n':Int):=by omega
 by_cases q2:40<n''
 ·have d2:(40:Int)<(n'':Int):=by omega
  have HR:=hide hr
  clear hr
  have kr:=hide hor
  clear hor
  have HZ:=hide hz
  clear hz
  simp only[ax]
  go_enter Tryz.func27,Tryz.ntmps27
  go_wp2_with fail
  obtain ⟨W3,hW3,d9,bR,o5⟩:=dm w x A n c A' n' c' aY n'' c'' rn A1 n1 c1 Ak nk ck A3 n3 c3 on A2 n2 c2 Al nl cl A4 n4 c4
  rw[<-hW3]
  clear hW3
  have uw:=hide bR
  clear bR
  obtain ⟨⟨LR,g0,g1,g2,g3,g4,g5,g6,g7,g8,g9,g10,g11,g12,g13⟩,⟨L2,r0,r1,r2,r3⟩,L3,s0,s1,s2,s3⟩:=o5.out _ (Below.refl _ _)
  go_wp2
  all_goals (try (exfalso;go_light;simp_all;done))
  go_ret
  exact ⟨tC.no rfl,uw.out⟩
 have d2:¬(40:Int)<(n'':Int):=by omega
 by_cases q3:4<n5
 ·have d3:(4:Int)<(n5:Int):=by omega
  have HR:=hide hr
  clear hr
  have kr:=hide hor
  clear hor
  have HZ:=hide hz
  clear hz
  simp only[ax]
  go_enter Tryz.func27,Tryz.ntmps27
  go_wp2_with fail
  obtain ⟨W3,hW3,d9,bR,o7⟩:=dm w x A n c A' n' c' aY n'' c'' rn A1 n1 c1 Ak nk ck A3 n3 c3 on A2 n2 c2 Al nl cl A4 n4 c4
  rw[<-hW3]
  clear hW3
  have mf:=hide bR
  clear bR
  obtain ⟨⟨LR,g0,g1,g2,g3,g4,g5,g6,g7,g8,g9,g10,g11,g12,g13⟩,⟨L2,r0,r1,r2,r3⟩,L3,s0,s1,s2,s3⟩:=o7.out _ (Below.refl _ _)
  go_wp2
  all_goals (try (exfalso;go_light;simp_all;done))
  go_ret
  exact ⟨tC.no rfl,mf.out⟩
 have d3:¬(4:Int)<(n5:Int):=by omega
 have HR:=hide hr
 clear hr
 have kr:=hide hor
 clear hor
 have HZ:=hide hz
 clear hz
 simp only[ax]
 go_enter Tryz.func27,Tryz.ntmps27
 go_wp2_with fail
 obtain ⟨W3,hW3,d9,bR,o9⟩:=dm w x A n c A' n' c' aY n'' c'' rn A1 n1 c1 Ak nk ck A3 n3 c3 on A2 n2 c2 Al nl cl A4 n4 c4
 rw[<-hW3]
 clear hW3
 have fZ:=hide bR
 clear bR
 obtain ⟨W3,rfl⟩: ∃W,W=W3:=⟨_,rfl⟩
 have R4:=hide fZ.out
 obtain ⟨⟨LR,g0,g1,g2,g3,g4,g5,g6,g7,g8,g9,g10,g11,g12,g13⟩,⟨L2,r0,r1,r2,r3⟩,L3,s0,s1,s2,s3⟩:=o9.out _ (Below.refl _ _)
 go_wp2
 go_loopg [9] n5 (λleft i wr=> ∃k:Nat,k+left=n5/\i=.int .i64 k/\Below W3.heap.size W3 wr)
 case atStart=>exact ⟨0,by omega,rfl,Below.refl _ _⟩
 case round=>
  obtain ⟨k,hk,rfl,hb⟩:=hrel
  have jV:=hide hb
  clear hb
  have l9:=hide jV.out
  have jk:=hide (aa fZ.out jV.out)
  by_cases hlt:k<n5
  ·have lq:=hide (aa fZ.out jV.out)
   obtain ⟨b,off,z,rfl,hBb,HX,Az,nz,cz,e0,e1,e2,e3,_,_⟩:=(HZ.out.below lq.out).zone hlt
   have k0:(0:Int)<=(k:Int):=by omega
   have k1:(k:Int)<(n5:Int):=by omega
   have lz:=e3.le
   by_cases qz:70<nz
   ·have dz:(70:Int)<(nz:Int):=by omega
    obtain ⟨⟨LR,g0,g1,g2,g3,g4,g5,g6,g7,g8,g9,g10,g11,g12,g13⟩,⟨L2,r0,r1,r2,r3⟩,L3,s0,s1,s2,s3⟩:=o9.out _ jV.out
    go_wp2
    all_goals (try (exfalso;go_light;simp_all;done))
    go_ret
    exact ⟨tC.no rfl,jk.out⟩
   ·have dz:¬(70:Int)<(nz:Int):=by omega
    obtain ⟨⟨LR,g0,g1,g2,g3,g4,g5,g6,g7,g8,g9,g10,g11,g12,g13⟩,⟨L2,r0,r1,r2,r3⟩,L3,s0,s1,s2,s3⟩:=o9.out _ jV.out
    go_wp2
    all_goals (try (exfalso;go_light;simp_all;done))
    go_roundg (gk-1)
    case measure=>omega
    case rel=>exact ⟨k+1,by omega,by go_num,l9.out⟩
  ·by_cases qa:n1<=16
   rotate_left
   ·have da:¬(n1:Int)<=16:=by omega
    obtain ⟨⟨LR,g0,g1,g2,g3,g4,g5,g6,g7,g8,g9,g10,g11,g12,g13⟩,⟨L2,r0,r1,r2,r3⟩,L3,s0,s1,s2,s3⟩:=o9.out _ jV.out
    go_wp2
    all_goals (try (exfalso;go_light;simp_all;done))
    go_ret
    exact ⟨tC.no rfl,jk.out⟩
   have da:(n1:Int)<=16:=by omega
   by_cases qb:n2<=16
   rotate_left
   ·have db:¬(n2:Int)<=16:=by omega
    obtain ⟨⟨LR,g0,g1,g2,g3,g4,g5,g6,g7,g8,g9,g10,g11,g12,g13⟩,⟨L2,r0,r1,r2,r3⟩,L3,s0,s1,s2,s3⟩:=o9.out _ jV.out
    go_wp2
    all_goals (try (exfalso;go_light;simp_all;done))
    go_ret
    exact ⟨tC.no rfl,jk.out⟩
   have db:(n2:Int)<=16:=by omega
   have SF:=hide (show n<=16/\n'<=16/\n1<=16/\n2<=16 by omega)
   obtain ⟨⟨LR,g0,g1,g2,g3,g4,g5,g6,g7,g8,g9,g10,g11,g12,g13⟩,⟨L2,r0,r1,r2,r3⟩,L3,s0,s1,s2,s3⟩:=o9.out _ jV.out
   go_wp2_with fail
   have sZ:=hide (aa fZ.out jV.out)
   refine (zX _ A3 n3 c3 rows (HR.out.below sZ.out) 20).mono ?_
   rintro e VT ⟨⟨ra,rfl,_⟩,mM⟩
   have kL:=hide (aa jV.out mM)
   clear mM
   cases ra
   ·have PD:=hide (aa fZ.out kL.out)
    obtain ⟨⟨LR,g0,g1,g2,g3,g4,g5,g6,g7,g8,g9,g10,g11,g12,g13⟩,⟨L2,r0,r1,r2,r3⟩,L3,s0,s1,s2,s3⟩:=o9.out _ kL.out
    go_wp2
    all_goals (try (exfalso;go_light;simp_all;done))
    go_ret
    exact ⟨tC.of SF.out rfl,PD.out⟩
   obtain ⟨⟨LR,g0,g1,g2,g3,g4,g5,g6,g7,g8,g9,g10,g11,g12,g13⟩,⟨L2,r0,r1,r2,r3⟩,L3,s0,s1,s2,s3⟩:=o9.out _ kL.out
   go_wp2_with fail
   have qD:=hide (aa fZ.out kL.out)
   refine (zX _ A4 n4 c4 orows (kr.out.below qD.out) 20).mono ?_
   rintro e w16 ⟨⟨rb,rfl,_⟩,oC⟩
   have tF:=hide (aa kL.out oC)
   clear oC
   have PD:=hide (aa fZ.out tF.out)
   obtain ⟨⟨LR,g0,g1,g2,g3,g4,g5,g6,g7,g8,g9,g10,g11,g12,g13⟩,⟨L2,r0,r1,r2,r3⟩,L3,s0,s1,s2,s3⟩:=o9.out _ tF.out
   go_wp2
   all_goals (try (exfalso;go_light;simp_all;done))
   go_ret
   exact ⟨tC.of SF.out rfl,PD.out⟩
theorem kV (w:World)(A:Option Addr)(n c:Nat)(l:List Int)(hx:In w A n c l)(hn:n<=1000):
  Calls Tryz.prog 59 #[.slice A n c] w
   λe w'=>(∃A' c',e=.returned (.slice A' n c')/\In w' A' n c' (l.map λk=>(⟨2,k,⟨#[]⟩⟩:Val)))/\Below w.heap.size w w':=by
 have HLEN:=hide hx.len
 have h63:=hx.le
 go_enter Tryz.func59,Tryz.ntmps59
 have HX:=hide hx
 clear hx
 go_wp2
 go_loopg [3,8] n (λleft v i wr=> ∃k:Nat,k+left=n/\i=.int .i64 k/\OL (α:=Val) 74 w.heap.size (λ_=>False) [] wr v ((l.take k).map λq=>⟨2,q,⟨#[]⟩⟩)/\Below w.heap.size w wr)
 case atStart=>exact ⟨0,by omega,rfl,OL.nil (Nat.le_refl _),Below.refl _ _⟩
 case round=>
  obtain ⟨k,hk,rfl,hol,hb⟩:=hrel
  have sJ:=hide hol
  clear hol
  have gp:=hide hb
  clear hb
  have l9:=hide gp.out
  by_cases hlt:k<n
  ·obtain ⟨b,off,m,rfl,hBb,Dz,e0,e1⟩:=(HX.out.below gp.out).int hlt
   have k0:(0:Int)<=(k:Int):=by omega
   have k1:(k:Int)<(n:Int):=by omega
   have HN:Hid ((l.take (k+1)).map (λq=>(⟨2,q,⟨#[]⟩⟩:Val))=(l.take k).map (λq=>(⟨2,q,⟨#[]⟩⟩:Val))++[⟨2,m,⟨#[]⟩⟩]):=hide (by rw[bP Dz.out,List.map_append];rfl)
   have xK:((l.take k).map λq=>(⟨2,q,⟨#[]⟩⟩:Val)).length+1<=maxLen:=by rw[List.length_map,List.length_take];simp only[maxLen];omega
   have xL:(((l.take k).map λq=>(⟨2,q,⟨#[]⟩⟩:Val)).length+1)*32<=140737488355328:=by rw[List.length_map,List.length_take];omega
   have Y9:Hid (((l.take k).map λq=>(⟨2,q,⟨#[]⟩⟩:Val)).length=k):=hide (by rw[List.length_map,List.length_take,HLEN.out];omega)
   obtain ⟨Ao,co,rfl⟩:=sJ.out.form
   rw[Y9.out]at sJ⊢
   obtain ⟨ms,hms⟩: ∃s,(l.take k).map (λq=>(⟨2,q,⟨#[]⟩⟩:Val))=s:=⟨_,rfl⟩
   rw[hms]at xK xL HN sJ
   clear hms
   have ZY:Val.ok ⟨2,m,⟨#[]⟩⟩:=⟨⟨by show (-9223372036854775808:Int)<=2;decide,by show (2:Int)<=9223372036854775807;decide⟩,e1,by show (⟨#[]⟩:ByteArray).size<=9223372036854775807;decide⟩
   go_wp2_with (at_builtin;refine dH _ rfl _ _ _ rfl F4 (by simp) wr _ rfl sJ.out rfl rfl ⟨2,m,⟨#[]⟩⟩ ⟨rfl,ZY⟩ xK xL ?_;intro v9 w9 sU gP sI pM;have Aa:=hide sU;have qp:=hide gP;clear sU gP sI pM)
   go_roundg (gk-1)
   case measure=>omega
   case rel=>exact ⟨k+1,by omega,by go_num,by rw[HN.out];exact Aa.out,l9.out.trans qp.out⟩
  ·have HT:Hid (l.take k=l):=hide (List.take_of_length_le (by rw[HLEN.out];omega))
   rw[HT.out]at sJ
   obtain ⟨A',c',hv,hin⟩:=sJ.out.inn
   rw[List.length_map,HLEN.out]at hv hin
   subst hv
   have eu:=hide hin
   have jk:=hide gp.out
   clear hin
   go_wp2
   go_ret
   exact ⟨⟨_,_,rfl,eu.out⟩,jk.out⟩
end Go.Proofs.YtggejcekmehocaaGreatDoor
