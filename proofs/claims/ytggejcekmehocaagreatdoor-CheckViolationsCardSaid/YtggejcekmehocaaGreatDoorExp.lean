/-
  check.Explain for unique checks. (Printed by gen_exp0.py.)
-/
import Derived.Deep.DrawnRows
import Derived.Deep.DeepCutAuto
import Derived.Test.YtggejcekmehocaaGreatDoorGaz
import Derived.Test.YtggejcekmehocaaGreatDoorJdg
import Derived.Test.YtggejcekmehocaaGreatDoorGal
namespace Go.Proofs.YtggejcekmehocaaGreatDoor
set_option maxHeartbeats 4000000
set_option maxRecDepth 100000
open Go.RowKit Go.Maps
set_option linter.unusedSimpArgs false
set_option linter.unusedVariables false
attribute [local go_sem ↓] Go.wp_at_zero Go.wp_at_succ
structure Rsn where
 name:ByteArray
 values:List Val
 rows:List (List Val)
def Ik:Rsn:=⟨⟨#[]⟩,[],[]⟩
def jd (cols:List Col)(names:List ByteArray)(rows:List Ent)(row pv:List Val):List (List Val):=(rows.filter λy=>!jO y.row row&&jO (aN cols names y.row) pv).map Ent.row
def D7 (c:Chk)(rc oc:List Col)(rr orr:List Ent)(zs:List Zone)(row:List Val):Int×Rsn:=
 if aI c rc oc rr orr zs≠0 then (aI c rc oc rr orr zs,Ik) else if cntF (bG c rc oc rr orr zs).2 row=0 then (13,Ik)
 else (0,⟨c.name,aN rc c.cols row,jd rc c.cols rr row (aN rc c.cols row)⟩)
instance:One (List Val):=⟨by rintro w S cs a ⟨A,n,c,rfl,_⟩ u hu;simp at hu;subst hu;rfl⟩
theorem vS:Elem Tryz.prog 103 59 1 24:=uM (.slice none 0 0) Tryz.underlying103 (by kernel_rfl) rfl (by decide)
theorem OL.setBlk {α:Type}[Rep α]{e:TypeId}{B:Nat}{O:Nat->Prop}{T:List TypeId}{w:World}{v:Value}{xs:List α}(h:OL e B O T w v xs){t g:Nat}(hg:gG w t g)(hB:B<=g\/ ∀k,¬O k)(hne:t≠e)(hT:t∉T)(o:Nat)(u:Value):OL e B O T (w.setCell ⟨g,o,none⟩ u) v xs:=
 h.kept (λk hk=>Below.heap_setCell _ _ _ k (λq=>by
  have q:k=g:=q
  subst q
  rcases hk with (⟨ho,hk⟩|⟨_,t',ht',hk⟩)|hk
  ·rcases hB with hB|hB
   ·omega
   ·exact hB _ ho
  ·exact gG.ne hg hk (λe'=>hT (e'▸ht')) rfl
  ·exact gG.ne hg (h.ty hk).2 hne rfl)) (by simp[World.setCell])
theorem Cu (cols:List Col)(names:List ByteArray)(l:List Ent)(y:Ent)(row pv:List Val):jd cols names (l++[y]) row pv=jd cols names l row pv++(if (!jO y.row row&&jO (aN cols names y.row) pv)=true then [y.row] else []):=by
 rw[jd,jd,List.filter_append,List.map_append]
 congr 1
 by_cases h:(!jO y.row row&&jO (aN cols names y.row) pv)=true
 ·rw[if_pos h];simp[h]
 ·rw[if_neg h];simp[h]
structure RsnAt (w:World) (g:Nat) (nm:ByteArray) (A:Option Addr) (n c:Nat) (v:Value):Prop where
 c0:w.cell? ⟨g,0,none⟩=some (.string nm)
 c1:w.cell? ⟨g,1,none⟩=some (.slice A n c)
 c2:w.cell? ⟨g,2,none⟩=some v
 fz:w.frozen? ⟨g,2,none⟩=false
 ty:gG w 105 g
theorem RsnAt.lt {w:World}{g:Nat}{nm:ByteArray}{A:Option Addr}{n c:Nat}{v:Value}(h:RsnAt w g nm A n c v):g<w.heap.size:=lt_of_cell h.c0
theorem RsnAt.below {w w':World}{g:Nat}{nm:ByteArray}{A:Option Addr}{n c:Nat}{v:Value}(h:RsnAt w g nm A n c v)(hb:Below w.heap.size w w'):RsnAt w' g nm A n c v:=
 ⟨ah hb h.lt h.c0,ah hb h.lt h.c1,ah hb h.lt h.c2,((ai hb).2 g 2 h.lt).trans h.fz,h.ty.below hb⟩
theorem RsnAt.grown {w w':World}{g:Nat}{nm:ByteArray}{A:Option Addr}{n c:Nat}{v:Value}(h:RsnAt w g nm A n c v){row:Option Nat}(hg:w.grownBy w' row)(hr:some g≠row):RsnAt w' g nm A n c v:=by
 have hb:=hg.block g h.lt hr
 refine ⟨(World.cell?_of_block (a:=⟨g,0,none⟩) hb).trans h.c0,(World.cell?_of_block (a:=⟨g,1,none⟩) hb).trans h.c1,(World.cell?_of_block (a:=⟨g,2,none⟩) hb).trans h.c2,?_,?_⟩
 ·obtain ⟨c,hc⟩:=h.ty
  exact frozen_of_row w' g 2 c _ (hb.trans hc)
 ·obtain ⟨c,hc⟩:=h.ty
  exact ⟨c,hb.trans hc⟩
theorem RsnAt.set2 {w:World}{g:Nat}{nm:ByteArray}{A:Option Addr}{n c:Nat}{v:Value}(h:RsnAt w g nm A n c v)(u:Value):RsnAt (w.setCell ⟨g,2,none⟩ u) g nm A n c u:=
 ⟨ae h.c0 (.inr (by omega)),ae h.c1 (.inr (by omega)),bU h.c2,by rw[World.frozen?_setCell];exact h.fz,h.ty.set _ _ _⟩
theorem Cv (w:World)(x:Chk)(A:Option Addr)(n c:Nat)(hn:In w A n c x.cols)(A':Option Addr)(n' c':Nat)(hn':In w A' n' c' x.ocols)(aY:Option Addr)(n'' c'':Nat)(hq:In w aY n'' c'' x.cond)(hw:Words w)(rn:ByteArray)(A1:Option Addr)(n1 c1:Nat)(cols:List Col)(hc:In w A1 n1 c1 cols)(Ak:Option Addr)(nk ck:Nat)(A3:Option Addr)(n3 c3:Nat)(rows:List Ent)(hr:In w A3 n3 c3 rows)(on:ByteArray)(A2:Option Addr)(n2 c2:Nat)(ocols:List Col)(ho:In w A2 n2 c2 ocols)(Al:Option Addr)(nl cl:Nat)(A4:Option Addr)(n4 c4:Nat)(orows:List Ent)(hor:In w A4 n4 c4 orows)(A5:Option Addr)(n5 c5:Nat)(zs:List Zone)(hz:In w A5 n5 c5 zs)(hb0:n<=4096)(hb1:n'<=4096)(hb2:n1<=4096)(hb3:n2<=4096)(Ar:Option Addr)(nr cr:Nat)(row:List Val)(hrow:In w Ar nr cr row)(hE:aI x cols ocols rows orows zs=0)(hC:¬cntF (bG x cols ocols rows orows zs).2 row=0)(hk:x.kind=0):
  Calls Tryz.prog 60 #[.agg (ax x A n c A' n' c' aY n'' c'').toArray,.agg #[.string rn,.slice A1 n1 c1,.slice Ak nk ck,.slice A3 n3 c3],.agg #[.string on,.slice A2 n2 c2,.slice Al nl cl,.slice A4 n4 c4],.slice A5 n5 c5,.slice Ar nr cr] w
   λe w'=>(∃v7 v8,e=.returned (.tuple #[.agg #[.string (D7 x cols ocols rows orows zs row).2.name,v7,v8],.int .i64 (D7 x cols ocols rows orows zs row).1])/\OL 74 w.heap.size (λ_=>False) [] w' v7 (D7 x cols ocols rows orows zs row).2.values/\OL 59 w.heap.size (λ_=>False) [74] w' v8 (D7 x cols ocols rows orows zs row).2.rows)/\Below w.heap.size w w':=by
 have qF:=hide λW hn hn' hq hw hc hr ho hor hz=>qf W x A n c hn A' n' c' hn' aY n'' c'' hq hw rn A1 n1 c1 cols hc Ak nk ck A3 n3 c3 rows hr on A2 n2 c2 ocols ho Al nl cl A4 n4 c4 orows hor A5 n5 c5 zs hz hb0 hb1 hb2 hb3 (.inl (by rw[hk];rfl))
 have HD:=hide (show D7 x cols ocols rows orows zs row=if aI x cols ocols rows orows zs≠0 then (aI x cols ocols rows orows zs,Ik) else if cntF (bG x cols ocols rows orows zs).2 row=0 then (13,Ik) else (0,⟨x.name,aN cols x.cols row,jd cols x.cols rows row (aN cols x.cols row)⟩) from rfl)
 have rW:=hide (show (bG x cols ocols rows orows zs).1=aI x cols ocols rows orows zs from by rw[bG];split <;> simp_all)
 obtain ⟨J,hJ⟩: ∃J,D7 x cols ocols rows orows zs row=J:=⟨_,rfl⟩
 obtain ⟨VL,qP⟩: ∃l,(bG x cols ocols rows orows zs).2=l:=⟨_,rfl⟩
 rw[hJ,qP]at HD
 rw[qP]at qF hC
 rw[hJ]
 clear hJ qP
 have HK:=hide hk
 have k4:(x.kind==4)=false:=by rw[hk];rfl
 have k0:(x.kind != 0)=false:=by rw[hk];rfl
 obtain ⟨_,hE2,_⟩:=dR hE
 obtain ⟨hbz,htz,hrz⟩:=bA hE2
 have Ah:=hide (eQ hbz htz)
 have Kz:=hide hrz
 have HJ:Hid (J=(0,⟨x.name,aN cols x.cols row,jd cols x.cols rows row (aN cols x.cols row)⟩)):=hide (by rw[HD.out,if_neg (by rw[hE];simp),if_neg hC])
 rw[hE]at rW
 clear hE hk hE2 hbz htz hrz HD
 simp only[ax]at qF⊢
 go_enter Tryz.func60,Tryz.ntmps60
 have HN:=hide hn
 clear hn
 have eT:=hide hn'
 clear hn'
 have HQ:=hide hq
 clear hq
 have HW:=hide hw
 clear hw
 have HC:=hide hc
 clear hc
 have HO:=hide ho
 clear ho
 have HZ:=hide hz
 clear hz
 have HR:=hide hr
 clear hr
 have kr:=hide hor
 clear hor
 have qw:=hide hrow
 clear hrow
 go_wp2_with fail
 obtain ⟨W3,hW3,d9,bR,Sc⟩:=dm w x A n c A' n' c' aY n'' c'' rn A1 n1 c1 Ak nk ck A3 n3 c3 on A2 n2 c2 Al nl cl A4 n4 c4
 rw[<-hW3]
 clear hW3
 have jW:=hide bR
 clear bR
 obtain ⟨W4,jb⟩: ∃W,W=W3.alloc (.cells #[.string ⟨#[]⟩,.slice none 0 0,.slice none 0 0] 105):=⟨_,rfl⟩
 obtain ⟨fI,mZ,z0,z1,z2⟩:=QR (b:=w.heap.size+1+1+1) jb (by rw[d9.out])
 have fM:Hid (bH W4 (w.heap.size+1+1+1) 105 3):=hide (by rw[<-d9.out,jb];exact bH.made _ _ _ _ rfl)
 rw[<-jb]
 clear jb
 have sH:=hide fI
 clear fI
 have L4:=lt_of_cell z0
 obtain ⟨⟨LR,g0,g1,g2,g3,g4,g5,g6,g7,g8,g9,g10,g11,g12,g13⟩,⟨L2,r0,r1,r2,r3⟩,L3,s0,s1,s2,s3⟩:=Sc.out _ sH.out
 go_wp2_with fail
 have BN:=hide (aa jW.out sH.out)
 refine (qF.out _ (HN.out.below BN.out) (eT.out.below BN.out) (HQ.out.below BN.out) (HW.out.below BN.out) (HC.out.below BN.out) (HR.out.below BN.out) (HO.out.below BN.out) (kr.out.below BN.out) (HZ.out.below BN.out)).mono ?_
 rintro e X9 ⟨⟨bv,rfl,hol⟩,El⟩
 have UO:=lX (jF g0 g1 g2 g3 g4 g5 g6 g7 g8 g9 g10 g11 g12 g13) (lX (jI r0 r1 r2 r3) (lX (jI s0 s1 s2 s3) (Xr z0 z1 z2)))
 have xE:=hide El
 clear El
 rw[rW.out]
 obtain ⟨Ab,cb,rfl,hib⟩:=pU hol
 obtain ⟨mb,hmb⟩: ∃m,VL.length=m:=⟨_,rfl⟩
 rw[hmb]at hib⊢
 clear hol hmb
 have IA:=hide hib
 clear hib
 have Yf:=hide hC
 obtain ⟨CT,XB⟩: ∃q,cntF VL row=q:=⟨_,rfl⟩
 rw[XB]at Yf
 have YO:=hide XB
 clear hC
 obtain ⟨⟨LR,g0,g1,g2,g3,g4,g5,g6,g7,g8,g9,g10,g11,g12,g13⟩,⟨L2,r0,r1,r2,r3⟩,⟨L3,s0,s1,s2,s3⟩,L4,z0,z1,z2⟩:=UO.out _ xE.out
 go_wp2_with fail
 have Qg:=hide (aa (aa jW.out sH.out) xE.out)
 refine (I8 _ Ab mb cb VL IA.out Ar nr cr row (qw.out.below Qg.out)).mono ?_
 rintro e Ya ⟨rfl,Ug⟩
 have uu:=hide Ug
 clear Ug
 rw[YO.out]
 clear XB
 have q1:(CT==0)=false:=by simpa using Yf.out
 obtain ⟨PV,sS⟩: ∃p,aN cols x.cols row=p:=⟨_,rfl⟩
 have xC:=hide λW h1 h2 h3=>pX W A1 n1 c1 cols h1 A n c x.cols h2 Ar nr cr row h3 (by omega) hb0
 rw[sS]at xC HJ
 clear sS
 have Ae:=hide (aa xE.out uu.out)
 obtain ⟨⟨LR,g0,g1,g2,g3,g4,g5,g6,g7,g8,g9,g10,g11,g12,g13⟩,⟨L2,r0,r1,r2,r3⟩,⟨L3,s0,s1,s2,s3⟩,L4,z0,z1,z2⟩:=UO.out _ Ae.out
 have QI:=hide g0
 have DJ:=hide r1
 have qj:=hide LR
 have ni:=hide L2
 have HX0:=hide (show ¬w.heap.size=Ya.heap.size from by have:=LR;(try simp at this);omega)
 have Dz:=hide (show ¬w.heap.size+1=Ya.heap.size from by have:=L2;(try simp at this);omega)
 obtain ⟨WA,rfl⟩: ∃W,W=Ya:=⟨_,rfl⟩
 have Yl:=hide (aa (aa (aa jW.out sH.out) xE.out) uu.out)
 go_upto_region 9 with (fail)
 go_cut [15] (λp wx=> ∃(gR:Nat) (A7:Option Addr) (m7 c7:Nat),p=.pointer (some ⟨gR,0,none⟩)/\WA.heap.size<=gR/\RsnAt wx gR x.name A7 m7 c7 (.slice none 0 0)/\OL 74 WA.heap.size (λ_=>False) [] wx (.slice A7 m7 c7) PV/\PV.length=m7/\Below WA.heap.size WA wx)
 case first=>
  have Dq:=hide (aa (aa (aa jW.out sH.out) xE.out) uu.out)
  go_region_held3 (λV=>V.cell? ⟨w.heap.size,0,none⟩=some (.string x.name)/\V.cell? ⟨w.heap.size+1,1,none⟩=some (.slice A1 n1 c1)) (first|exact ⟨ah ik.out qj.out QI.out,ah ik.out ni.out DJ.out⟩|exact ⟨ah (af (w:=w7)) (lt_of_cell (ah ik.out qj.out QI.out)) (ah ik.out qj.out QI.out),ah (af (w:=w7)) (lt_of_cell (ah ik.out ni.out DJ.out)) (ah ik.out ni.out DJ.out)⟩|exact ⟨g0,r1⟩|exact ⟨ae (ae (ae (ah fG.out qj.out QI.out) (.inl HX0.out)) (.inl HX0.out)) (.inl HX0.out),ae (ae (ae (ah fG.out ni.out DJ.out) (.inl Dz.out)) (.inl Dz.out)) (.inl Dz.out)⟩|exact ⟨ah fG.out qj.out QI.out,ah fG.out ni.out DJ.out⟩|go_keep) (first|(go_at_call 89;refine (xC.out _ (by exact (HC.out.below Dq.out).below (Below.refl _ _).drew) (by exact (HN.out.below Dq.out).below (Below.refl _ _).drew) (by exact (qw.out.below Dq.out).below (Below.refl _ _).drew)).mono ?_;rintro e w7 ⟨⟨A7,m7,c7,rfl,Aw,Uv,_⟩,dC⟩;have Ad:=hide Aw;have SG:=hide Uv;have ik:=hide (ag dC);clear Aw Uv dC)|(go_at_call 89;refine (xC.out _ (by exact (HC.out.below Dq.out).below (aa af (Below.refl _ _).drew)) (by exact (HN.out.below Dq.out).below (aa af (Below.refl _ _).drew)) (by exact (qw.out.below Dq.out).below (aa af (Below.refl _ _).drew))).mono ?_;rintro e w8 ⟨⟨A7,m7,c7,rfl,Aw,Uv,_⟩,uR⟩;have Ad:=hide Aw;have SG:=hide Uv;have fG:=hide (aa af (ag uR));have NC:=hide (ag uR);have u0:=ah NC.out (b:=WA.heap.size) (o:=0) (v:=.string ⟨#[]⟩) (by simp) (by simp[go_sem]);have u1:=ah NC.out (b:=WA.heap.size) (o:=1) (v:=.slice none 0 0) (by simp) (by simp[go_sem]);have u2:=ah NC.out (b:=WA.heap.size) (o:=2) (v:=.slice none 0 0) (by simp) (by simp[go_sem]);have IE:=hide ((bH.made WA #[.string ⟨#[]⟩,.slice none 0 0,.slice none 0 0] 105 3 rfl).below NC.out);have t0:=IE.out.frozen 0;have t1:=IE.out.frozen 1;have t2:=IE.out.frozen 2;clear Aw Uv uR))
  ·obtain ⟨W9,LW⟩: ∃W,W=w7.alloc (.cells #[.string x.name,.slice A7 m7 c7,.slice none 0 0] 105):=⟨_,rfl⟩
   obtain ⟨gR,hgR⟩: ∃g,g=w7.heap.size:=⟨_,rfl⟩
   have hop:=Ad.out.rebase (B0:=WA.heap.size) (by simp)
   have PG:Hid (RsnAt W9 gR x.name A7 m7 c7 (.slice none 0 0)):=hide (by
    rw[LW,hgR]
    exact ⟨by simp[go_sem],by simp[go_sem],by simp[go_sem],frozen_of_row _ _ 2 _ _ (heap_alloc_new _ _),⟨_,heap_alloc_new _ _⟩⟩)
   have J7:Hid (OL 74 WA.heap.size (λ_=>False) [] W9 (.slice A7 m7 c7) PV):=hide (by rw[LW];exact hop.below af)
   have qp:Hid (Below WA.heap.size WA W9):=hide (by rw[LW];exact ik.out.alloc ik.out.size _)
   have PH:=hide (show WA.heap.size<=gR by have:=ik.out.size;omega)
   clear hop ik Ad
   rw[<-LW,<-hgR]
   clear hgR LW
   go_wp2_with fail
   go_meet
   case rel=>exact ⟨gR,A7,m7,c7,rfl,PH.out,PG.out,J7.out,SG.out,qp.out⟩
  ·obtain ⟨W9,LW⟩: ∃W,W=(((w8.setCell ⟨WA.heap.size,0,none⟩ (.string x.name)).setCell ⟨WA.heap.size,1,none⟩ (.slice A7 m7 c7)).setCell ⟨WA.heap.size,2,none⟩ (.slice none 0 0)):=⟨_,rfl⟩
   obtain ⟨gR,hgR⟩: ∃g,g=WA.heap.size:=⟨_,rfl⟩
   have hop:=Ad.out.rebase (B0:=WA.heap.size) (by simp)
   have hty:=IE.out.ty
   have PG:Hid (RsnAt W9 gR x.name A7 m7 c7 (.slice none 0 0)):=hide (by
    rw[LW,hgR]
    have fz:=kS (kS (kS IE.out.frozen WA.heap.size 0 (.string x.name)) WA.heap.size 1 (.slice A7 m7 c7)) WA.heap.size 2 (.slice none 0 0)
    exact ⟨ae (ae (bU u0) (.inr (by omega))) (.inr (by omega)),ae (bU (ae u1 (.inr (by omega)))) (.inr (by omega)),bU (ae (ae u2 (.inr (by omega))) (.inr (by omega))),fz 2,((hty.set _ _ _).set _ _ _).set _ _ _⟩)
   have J7:Hid (OL 74 WA.heap.size (λ_=>False) [] W9 (.slice A7 m7 c7) PV):=hide (by
    rw[LW]
    exact ((hop.setBlk hty (.inr λ_ h=>h) (by decide) (by simp) _ _).setBlk (hty.set _ _ _) (.inr λ_ h=>h) (by decide) (by simp) _ _).setBlk ((hty.set _ _ _).set _ _ _) (.inr λ_ h=>h) (by decide) (by simp) _ _)
   have qp:Hid (Below WA.heap.size WA W9):=hide (by
    rw[LW]
    exact ((fG.out.setCell (Nat.le_refl _) _).setCell (Nat.le_refl _) _).setCell (Nat.le_refl _) _)
   have PH:=hide (show WA.heap.size<=gR by omega)
   clear hop hty u0 u1 u2 t0 t1 t2 IE NC fG Ad
   rw[<-LW,<-hgR]
   clear hgR LW
   go_wp2_with fail
   go_meet
   case rel=>exact ⟨gR,A7,m7,c7,rfl,PH.out,PG.out,J7.out,SG.out,qp.out⟩
 case rest=>
  obtain ⟨gR,A7,m7,c7,rfl,hgb,hrs,hpv,hlp,hb⟩:=hcut
  have PH:=hide hgb
  have PG:=hide hrs
  have J7:=hide hpv
  have SG:=hide hlp
  have qp:=hide hb
  clear hgb hrs hpv hlp hb
  have qo:=hide (aa (aa (aa jW.out sH.out) xE.out) uu.out)
  have BR:=hide (HR.out.below qo.out)
  have HLEN:=hide HR.out.len
  have h63:=HR.out.le
  have Rp:n3<=4096:=by rw[<-HLEN.out];exact Ah.out.1
  have dI:=hide (show ¬w.heap.size+1+1+1=gR from by have h4:w.heap.size+1+1+1<WA.heap.size:=L4;have:=PH.out;omega)
  have q2:=ah qp.out LR g2
  have q3:=ah qp.out L2 r3
  have Aa:Hid (OL (α:=List Val) 59 WA.heap.size (λ_=>False) [74] wc (.slice none 0 0) []):=hide (OL.nil qp.out.size)
  clear xC
  go_wp2
  go_loopg [58] n3 (λleft i wr=> ∃(k:Nat) (v:Value) (ys:List (List Val)),k+left=n3/\i=.int .i64 k/\ys=jd cols x.cols (rows.take k) row PV/\ys.length<=k/\RsnAt wr gR x.name A7 m7 c7 v/\OL 59 WA.heap.size (λ_=>False) [74] wr v ys/\OL 74 WA.heap.size (λ_=>False) [] wr (.slice A7 m7 c7) PV/\Below WA.heap.size WA wr)
  case atStart=>exact ⟨0,_,[],by omega,rfl,by simp[jd],by simp,PG.out,Aa.out,J7.out,qp.out⟩
  case round=>
   obtain ⟨k,v,ys,hk,rfl,hys,hyl,hrs,hol,hpv,hb⟩:=hrel
   have Hg:=hide hys
   have PK:=hide hrs
   have sJ:=hide hol
   have Wy:=hide hpv
   clear hys hrs hol hpv PG J7 qp Aa q2 q3
   have oW:=hide hb
   clear hb
   have l9:=hide oW.out
   have Ws:=hide PK.out.lt
   by_cases hlt:k<n3
   ·obtain ⟨b,off,y,rfl,qy,HX,Ax,An,Ac,f0,f1,e2,e3⟩:=BR.out.ent hlt
    have hBb:b<wr.heap.size:=Nat.lt_of_lt_of_le qy l9.out.size
    have e0:=ah l9.out qy f0
    have e1:=ah l9.out qy f1
    have k0:(0:Int)<=(k:Int):=by omega
    have k1:(k:Int)<(n3:Int):=by omega
    have HRW:=hide (e2.below l9.out)
    have WF:=hide (Cu cols x.cols (rows.take k) y row PV)
    rw[<-bP HX.out,<-Hg.out]at WF
    have hAn:An<=1048576:=by have h1:=iU (Kz.out y (aM HX.out));have h2:=e2.len;have h3:=HC.out.len;omega
    clear e2 f0 f1
    have V5:=hide (aa (aa xE.out uu.out) oW.out)
    obtain ⟨⟨LR,g0,g1,g2,g3,g4,g5,g6,g7,g8,g9,g10,g11,g12,g13⟩,⟨L2,r0,r1,r2,r3⟩,⟨L3,s0,s1,s2,s3⟩,L4,z0,z1,z2⟩:=UO.out _ V5.out
    go_upto_region 15 with (fail)
    obtain ⟨VI,O5⟩: ∃W,W=wr.alloc (.cells #[.slice Ax An Ac,.int .i64 y.count] 61):=⟨_,rfl⟩
    obtain ⟨Me,Yr,x0,x1⟩:=iM O5 rfl
    have Tz:Hid (bH VI (wr.heap.size) 61 2):=hide (by rw[O5];exact bH.made _ _ _ _ rfl)
    rw[<-O5]
    clear O5
    have Hq:=hide Me
    have lw:=hide (aa oW.out Me)
    clear Me
    have Yn:=lt_of_cell x0
    have Qx:=hide (PK.out.below Hq.out)
    have Wx:=hide (sJ.out.below Hq.out)
    have SS:=hide (Wy.out.below Hq.out)
    have NM:=hide (HRW.out.below Hq.out)
    have Za:=hide lw.out
    have d1:=Qx.out.c1
    have X0:=hide x0
    have D1:=hide d1
    have DL:=hide Qx.out.lt
    have V6:=hide (aa (aa xE.out uu.out) lw.out)
    obtain ⟨⟨LR,g0,g1,g2,g3,g4,g5,g6,g7,g8,g9,g10,g11,g12,g13⟩,⟨L2,r0,r1,r2,r3⟩,⟨L3,s0,s1,s2,s3⟩,L4,z0,z1,z2⟩:=UO.out _ V6.out
    have Ty:=hide r1
    have PX:=hide L2
    have KM:=hide Yn
    have ZB:=hide Tz.out.ty
    have Zn:=hide (show wr.heap.size<VI.heap.size from Yn)
    have HCM:=hide λW h1 h2=>jS W Ax Ar An nr Ac cr y.row row h1 h2
    have Qt:=hide λW h1 h2 h3=>pX W A1 n1 c1 cols h1 A n c x.cols h2 Ax An Ac y.row h3 (by omega) hb0
    obtain ⟨PY,XD⟩: ∃q,aN cols x.cols y.row=q:=⟨_,rfl⟩
    obtain ⟨Q,hQ⟩: ∃q,aC y.row row=q:=⟨_,rfl⟩
    obtain ⟨Q2,O4⟩: ∃q,aC PY PV=q:=⟨_,rfl⟩
    have Ql:=hide λW A5 m5 c5 h1 h2=>jS W A5 A7 m5 m7 c5 c7 PY PV h1 h2
    have QA:Hid (jd cols x.cols (rows.take (k+1)) row PV=ys++(if (!(Q==0)&&(Q2==0))=true then [y.row] else [])):=hide (by
     rw[WF.out,XD,jO,jO,hQ,O4])
    rw[hQ]at HCM
    rw[XD]at Qt
    rw[O4]at Ql
    clear XD hQ O4 WF PK sJ Wy HRW e0 e1
    have XL:¬gR=wr.heap.size:=by have h1:=Ws.out;omega
    obtain ⟨CB,Xy⟩: ∃b,(!(Q==0)&&(Q2==0))=b:=⟨_,rfl⟩
    rw[Xy]at QA
    have Ye:=hide Xy
    clear Xy
    go_cut [78] (λt wx=>t=.bool CB/\Below VI.heap.size VI wx)
    case first=>
     have Jy:True:=trivial
     by_cases hq:Q=0
     ·subst hq
      obtain rfl:CB=false:=by rw[<-Ye.out];rfl
      refine wp_region_held_drew (S:=λV=>V.cell? ⟨wr.heap.size,0,none⟩=some (.slice Ax An Ac)) (by kernel_rfl) (by exact x0) (λhHeld=>?_)
      refine wpAnyH_take (i:=0) (v:=?_) rfl (by kernel_rfl) (by kernel_rfl) (by kernel_rfl) (λ_ _ _ h=>h) (Or.inl ⟨by rfl,?_⟩) hHeld ?_
      rotate_left
      ·intro w hSw
       try dsimp only at hSw
       go_simp
       try with_reducible rfl
      (try simp only[Act.put,bL])
      refine wpAnyH_take (i:=1) (v:=?_) rfl (by kernel_rfl) (by kernel_rfl) (by kernel_rfl) (λ_ _ _ h=>h) (Or.inl ⟨by rfl,?_⟩) hHeld ?_
      rotate_left
      ·intro w hSw
       try dsimp only at hSw
       go_simp
       try with_reducible rfl
      (try simp only[Act.put,bL])
      refine wpAnyH_take (i:=2) (v:=?_) rfl (by kernel_rfl) (by kernel_rfl) (by kernel_rfl) (λ_ _ _ h=>h) (Or.inl ⟨by rfl,?_⟩) hHeld ?_
      rotate_left
      ·intro w hSw
       try dsimp only at hSw
       go_simp
       try with_reducible rfl
      (try simp only[Act.put,bL])
      refine wpAnyH_ready (rs:=[3]) (by kernel_rfl) (by simp) ?_
      refine AllReadyH.cons rfl (λK hK=>?_) AllReadyH.nil
      go_simp
      go_at_call 84
      have tq:=hide (aa (aa (aa (aa jW.out sH.out) xE.out) uu.out) lw.out)
      refine (HCM.out _ (by exact NM.out.below (Below.refl _ _).drew) (by exact (qw.out.below tq.out).below (Below.refl _ _).drew)).mono ?_
      rintro e Nf ⟨rfl,kN⟩
      have Af:=hide (ag kN)
      clear kN
      go_wp2_with fail
      refine hK.out _ _ ?_ (λaB=>?_)
      ·exact ah Af.out KM.out X0.out
      clear hK K hHeld
      have hHeld:=aB
      clear aB
      (try simp only[Act.put,bL])
      refine wpAnyH_take (i:=4) (v:=?_) rfl (by kernel_rfl) (by kernel_rfl) (by kernel_rfl) (λ_ _ _ h=>h) (Or.inl ⟨by rfl,?_⟩) hHeld ?_
      rotate_left
      ·intro w hSw
       try dsimp only at hSw
       go_simp
       try with_reducible rfl
      (try simp only[Act.put,bL])
      refine wpAnyH_take (i:=5) (v:=?_) rfl (by kernel_rfl) (by kernel_rfl) (by kernel_rfl) (λ_ _ _ h=>h) (Or.inl ⟨by rfl,?_⟩) hHeld ?_
      rotate_left
      ·intro w hSw
       try dsimp only at hSw
       go_simp
       try with_reducible rfl
      (try simp only[Act.put,bL])
      refine wpAnyH_take (i:=6) (v:=undef) rfl (by kernel_rfl) (by kernel_rfl) (by kernel_rfl) (λ_ _ _ h=>h) (Or.inr ⟨by rfl,rfl⟩) hHeld ?_
      (try simp only[Act.put,bL])
      refine wpAnyH_take (i:=7) (v:=undef) rfl (by kernel_rfl) (by kernel_rfl) (by kernel_rfl) (λ_ _ _ h=>h) (Or.inr ⟨by rfl,rfl⟩) hHeld ?_
      (try simp only[Act.put,bL])
      refine wpAnyH_take (i:=8) (v:=undef) rfl (by kernel_rfl) (by kernel_rfl) (by kernel_rfl) (λ_ _ _ h=>h) (Or.inr ⟨by rfl,rfl⟩) hHeld ?_
      (try simp only[Act.put,bL])
      refine wpAnyH_take (i:=9) (v:=undef) rfl (by kernel_rfl) (by kernel_rfl) (by kernel_rfl) (λ_ _ _ h=>h) (Or.inr ⟨by rfl,rfl⟩) hHeld ?_
      (try simp only[Act.put,bL])
      refine wpAnyH_take (i:=10) (v:=undef) rfl (by kernel_rfl) (by kernel_rfl) (by kernel_rfl) (λ_ _ _ h=>h) (Or.inr ⟨by rfl,rfl⟩) hHeld ?_
      (try simp only[Act.put,bL])
      refine wpAnyH_take (i:=11) (v:=undef) rfl (by kernel_rfl) (by kernel_rfl) (by kernel_rfl) (λ_ _ _ h=>h) (Or.inr ⟨by rfl,rfl⟩) hHeld ?_
      (try simp only[Act.put,bL])
      refine wpAnyH_take (i:=12) (v:=undef) rfl (by kernel_rfl) (by kernel_rfl) (by kernel_rfl) (λ_ _ _ h=>h) (Or.inr ⟨by rfl,rfl⟩) hHeld ?_
      (try simp only[Act.put,bL])
      refine wpAnyH_take (i:=13) (v:=undef) rfl (by kernel_rfl) (by kernel_rfl) (by kernel_rfl) (λ_ _ _ h=>h) (Or.inr ⟨by rfl,rfl⟩) hHeld ?_
      (try simp only[Act.put,bL])
      refine wpAnyH_take (i:=14) (v:=undef) rfl (by kernel_rfl) (by kernel_rfl) (by kernel_rfl) (λ_ _ _ h=>h) (Or.inr ⟨by rfl,rfl⟩) hHeld ?_
      (try simp only[Act.put,bL])
      refine wpAnyH_take (i:=15) (v:=undef) rfl (by kernel_rfl) (by kernel_rfl) (by kernel_rfl) (λ_ _ _ h=>h) (Or.inr ⟨by rfl,rfl⟩) hHeld ?_
      (try simp only[Act.put,bL])
      refine wpAnyH_take (i:=16) (v:=?_) rfl (by kernel_rfl) (by kernel_rfl) (by kernel_rfl) (λ_ _ _ h=>h) (Or.inl ⟨by rfl,?_⟩) hHeld ?_
      rotate_left
      ·intro w hSw
       try dsimp only at hSw
       go_simp
       try with_reducible rfl
      (try simp only[Act.put,bL])
      refine wpAnyH_done (by kernel_rfl) ?_ _
      all_goals
       go_wp2_with fail
       go_meet
       case rel=>exact ⟨rfl,Af.out⟩
     ·have q0:(Q != 0)=true:=by simpa using hq
      have Wd:Hid (CB=(Q2==0)):=hide (by rw[<-Ye.out];simp[hq])
      have vE:=hide (aa (aa (aa (aa jW.out sH.out) xE.out) uu.out) lw.out)
      go_region_held3 (λV=>V.cell? ⟨wr.heap.size,0,none⟩=some (.slice Ax An Ac)/\V.cell? ⟨w.heap.size+1,1,none⟩=some (.slice A1 n1 c1)/\V.cell? ⟨gR,1,none⟩=some (.slice A7 m7 c7))
       (first|exact ⟨ah Nv.out KM.out X0.out,ah Nv.out PX.out Ty.out,ah Nv.out DL.out D1.out⟩|exact ⟨ah Kh.out KM.out X0.out,ah Kh.out PX.out Ty.out,ah Kh.out DL.out D1.out⟩|exact ⟨ah Af.out KM.out X0.out,ah Af.out PX.out Ty.out,ah Af.out DL.out D1.out⟩|exact ⟨x0,r1,d1⟩|go_keep)
       (first
        |(clear Jy;go_at_call 84;refine (HCM.out _ (by exact NM.out.below (Below.refl _ _).drew) (by exact (qw.out.below vE.out).below (Below.refl _ _).drew)).mono ?_;rintro e Nf ⟨rfl,kN⟩;have Af:=hide (ag kN);clear kN;have ED:True:=trivial)
        |(clear ED;go_at_call 89;refine (Qt.out _ (by exact (HC.out.below vE.out).below Af.out) (by exact (HN.out.below vE.out).below Af.out) (by exact NM.out.below Af.out)).mono ?_;rintro e w12 ⟨⟨A5,m5,c5,rfl,Yy,hl5,_⟩,Ue⟩;have SA:=hide (gD Yy hl5);have Kh:=hide (aa Af.out Ue);clear Yy hl5 Ue;have Nq:True:=trivial)
        |(clear Nq;go_at_call 84;refine (Ql.out _ A5 m5 c5 (by exact SA.out) (by exact gD (SS.out.below Kh.out) SG.out)).mono ?_;rintro e VT ⟨rfl,mM⟩;have Nv:=hide (aa Kh.out mM);clear mM;have YD:True:=trivial))
      obtain rfl:=Wd.out
      go_wp2_with fail
      go_meet
      case rel=>exact ⟨rfl,Nv.out⟩
    case rest=>
     obtain ⟨rfl,qZ⟩:=hcut
     have FE:=hide qZ
     have Ky:=hide (Qx.out.below FE.out)
     have Qr:=hide (Wx.out.below FE.out)
     have Qu:=hide (SS.out.below FE.out)
     have HL2:=hide (aa Za.out FE.out)
     have SY:=hide (NM.out.below FE.out)
     clear qZ HCM Ql Qt x0 x1 d1
     cases CB
     ·have FJ:Hid (ys=jd cols x.cols (rows.take (k+1)) row PV):=hide (by rw[QA.out];simp)
      go_wp2
      go_roundg (gk-1)
      case measure=>omega
      case rel=>exact ⟨k+1,v,ys,by omega,by go_num,FJ.out,by omega,Ky.out,Qr.out,Qu.out,HL2.out⟩
     ·have FJ:Hid (ys++[y.row]=jd cols x.cols (rows.take (k+1)) row PV):=hide (by rw[QA.out];simp)
      have Ym:=hide (show WA.heap.size<=wc.heap.size from HL2.out.size)
      have FC:=hide (ah FE.out KM.out X0.out)
      have vH:=hide (lt_of_cell FC.out)
      have QH:Hid (gG wc 61 wr.heap.size):=hide (ZB.out.below FE.out)
      have xK:ys.length+1<=maxLen:=by simp only[maxLen];omega
      have xL:(ys.length+1)*24<=140737488355328:=by omega
      have c2:=Ky.out.c2
      have hlr:=Ky.out.lt
      have Rq:¬wr.heap.size=gR:=λe=>XL e.symm
      go_upto_region 16 with (fail)
      refine wp_region_held_drew (S:=λV=>V.cell? ⟨wr.heap.size,0,none⟩=some (.slice Ax An Ac)) (by kernel_rfl) (by exact FC.out) (λhHeld=>?_)
      refine wpAnyH_take (i:=0) (v:=?_) rfl (by kernel_rfl) (by kernel_rfl) (by kernel_rfl) (λ_ _ _ h=>h) (Or.inl ⟨by rfl,?_⟩) hHeld ?_
      rotate_left
      ·intro w hSw
       try dsimp only at hSw
       go_simp
       try with_reducible rfl
      (try simp only[Act.put,bL])
      refine wpAnyH_take (i:=2) (v:=?_) rfl (by kernel_rfl) (by kernel_rfl) (by kernel_rfl) (λ_ _ _ h=>h) (Or.inl ⟨by rfl,?_⟩) hHeld ?_
      rotate_left
      ·intro w hSw
       try dsimp only at hSw
       go_simp
       try with_reducible rfl
      (try simp only[Act.put,bL])
      refine wpAnyH_take (i:=3) (v:=?_) rfl (by kernel_rfl) (by kernel_rfl) (by kernel_rfl) (λ_ _ _ h=>h) (Or.inl ⟨by rfl,?_⟩) hHeld ?_
      rotate_left
      ·intro w hSw
       try dsimp only at hSw
       go_simp
       try with_reducible rfl
      (try simp only[Act.put,bL])
      refine wpAnyH_ready (rs:=[1,4]) (by kernel_rfl) (by simp) ?_
      refine AllReadyH.cons rfl (λK hK=>?_) (AllReadyH.cons rfl (λK hK=>?_) AllReadyH.nil)
      ·go_simp
       refine hK.out _ _ ?_ (λaB=>?_)
       ·exact FC.out
       clear hK K hHeld
       have hHeld:=aB
       clear aB
       (try simp only[Act.put,bL])
       refine wpAnyH_ready (rs:=[4]) (by kernel_rfl) (by simp) ?_
       refine AllReadyH.cons rfl (λK hK=>?_) AllReadyH.nil
       go_simp
       go_at_call 63
       refine (rX _ Ax An Ac y.row (by exact SY.out.below (Below.refl _ _).drew) hAn).mono ?_
       rintro e w6 ⟨⟨A6,c6,rfl,hs6⟩,hb6⟩
       have jE:=hide (ag hb6)
       have PL:=hide (hs6.mono λk hk=>show BS WA.heap.size (λ_=>False) [74] w6 k from .inr ⟨Nat.le_trans Ym.out hk.1,_,by simp,hk.2⟩)
       have Dv:=hide (Qr.out.below jE.out)
       have Nj:=hide (Ky.out.below jE.out)
       have Qs:=hide (Qu.out.below jE.out)
       clear hs6 hb6
       go_wp2_with fail
       refine hK.out _ _ ?_ (λaB=>?_)
       ·exact ah jE.out vH.out FC.out
       clear hK K hHeld
       have hHeld:=aB
       clear aB
       (try simp only[Act.put,bL])
       refine wpAnyH_ready (rs:=[5]) (by kernel_rfl) (by simp) ?_
       refine AllReadyH.cons rfl (λK hK=>?_) AllReadyH.nil
       go_simp
       refine hK.out _ _ ?_ (λaB=>?_)
       ·exact ah (aa jE.out af) vH.out FC.out
       clear hK K hHeld
       have hHeld:=aB
       clear aB
       (try simp only[Act.put,bL])
       refine wpAnyH_ready (rs:=[6]) (by kernel_rfl) (by simp) ?_
       refine AllReadyH.cons rfl (λK hK=>?_) AllReadyH.nil
       refine kG _ rfl _ _ _ rfl vS (by decide) w6 _ rfl Dv.out (by simp[Act.eval,Act.put]) (by simp[Act.eval,Act.put]) y.row ⟨_,_,_,rfl,PL.out⟩ xK xL ?_
       intro v9 w9 sU gP sI pM
       obtain ⟨A9,c9,Mm⟩:=sU.form
       obtain ⟨m9,P7⟩: ∃m,(ys++[y.row]).length=m:=⟨_,rfl⟩
       rw[P7]at Mm
       subst Mm
       clear P7
       have Aa:=hide sU
       have SI:Hid (some gR≠v.ownBlock):=hide (λe=>gG.ne Nj.out.ty (Dv.out.ty e.symm).2 (by decide) rfl)
       have Dw:=hide (Nj.out.grown sI SI.out)
       have J7:=hide (Qs.out.grown sI λk e=>⟨λe2=>gG.ne (Dv.out.ty e).2 (Qs.out.ty e2).2 (by decide) rfl,λhb=>by
        rcases hb with ⟨h,_⟩|⟨_,t,ht,_⟩
        ·exact h
        ·cases ht⟩)
       have PZ:=hide ((World.cell?_of_block (a:=⟨wr.heap.size,0,none⟩) (sI.block wr.heap.size (lt_of_cell (ah jE.out vH.out FC.out)) (λe=>gG.ne (QH.out.below jE.out) (Dv.out.ty e.symm).2 (by decide) rfl))).trans (ah jE.out vH.out FC.out))
       have qp:=hide (HL2.out.trans ((jE.out.mono HL2.out.size).trans gP))
       have j2:=Dw.out.c2
       have jf:=Dw.out.fz
       clear sU gP sI pM
       refine hK.out _ _ ?_ (λaB=>?_)
       ·exact PZ.out
       clear hK K hHeld
       have hHeld:=aB
       clear aB
       (try simp only[Act.put,bL])
       refine wpAnyH_take (i:=7) (v:=?_) rfl (by kernel_rfl) (by kernel_rfl) (by kernel_rfl) (λ_ _ _ h=>h) (Or.inl ⟨by rfl,?_⟩) hHeld ?_
       rotate_left
       ·intro w hSw
        try dsimp only at hSw
        go_simp
        try with_reducible rfl
       (try simp only[Act.put,bL])
       refine wpAnyH_ready (rs:=[8]) (by kernel_rfl) (by simp) ?_
       refine AllReadyH.cons rfl (λK hK=>?_) AllReadyH.nil
       go_simp
       refine hK.out _ _ ?_ (λaB=>?_)
       ·exact ae PZ.out (.inl Rq)
       clear hK K hHeld
       have hHeld:=aB
       clear aB
       (try simp only[Act.put,bL])
       refine wpAnyH_done (by kernel_rfl) ?_ _
       have FK:=hide (Aa.out.setBlk Dw.out.ty (.inr λ_ h=>h) (by decide) (by decide) 2 (.slice A9 m9 c9))
       have Ko:=hide (J7.out.setBlk Dw.out.ty (.inr λ_ h=>h) (by decide) (by decide) 2 (.slice A9 m9 c9))
       have Kt:=hide (Dw.out.set2 (.slice A9 m9 c9))
       have lu:=hide (qp.out.setCell (p:=⟨gR,2,none⟩) PH.out (.slice A9 m9 c9))
       go_wp2
       go_roundg (gk-1)
       case measure=>omega
       case rel=>exact ⟨k+1,_,ys++[y.row],by omega,by go_num,FJ.out,by simp;omega,Kt.out,FK.out,Ko.out,lu.out⟩
      ·go_simp
       go_at_call 63
       refine (rX _ Ax An Ac y.row (by exact SY.out.below (Below.refl _ _).drew) hAn).mono ?_
       rintro e w6 ⟨⟨A6,c6,rfl,hs6⟩,hb6⟩
       have jE:=hide (ag hb6)
       have PL:=hide (hs6.mono λk hk=>show BS WA.heap.size (λ_=>False) [74] w6 k from .inr ⟨Nat.le_trans Ym.out hk.1,_,by simp,hk.2⟩)
       have Dv:=hide (Qr.out.below jE.out)
       have Nj:=hide (Ky.out.below jE.out)
       have Qs:=hide (Qu.out.below jE.out)
       have j2:=Nj.out.c2
       clear hs6 hb6
       go_wp2_with fail
       refine hK.out _ _ ?_ (λaB=>?_)
       ·exact ah jE.out vH.out FC.out
       clear hK K hHeld
       have hHeld:=aB
       clear aB
       (try simp only[Act.put,bL])
       refine wpAnyH_ready (rs:=[1,5]) (by kernel_rfl) (by simp) ?_
       refine AllReadyH.cons rfl (λK hK=>?_) (AllReadyH.cons rfl (λK hK=>?_) AllReadyH.nil)
       ·go_simp
        refine hK.out _ _ ?_ (λaB=>?_)
        ·exact ah jE.out vH.out FC.out
        clear hK K hHeld
        have hHeld:=aB
        clear aB
        (try simp only[Act.put,bL])
        refine wpAnyH_ready (rs:=[5]) (by kernel_rfl) (by simp) ?_
        refine AllReadyH.cons rfl (λK hK=>?_) AllReadyH.nil
        go_simp
        refine hK.out _ _ ?_ (λaB=>?_)
        ·exact ah (aa jE.out af) vH.out FC.out
        clear hK K hHeld
        have hHeld:=aB
        clear aB
        (try simp only[Act.put,bL])
        refine wpAnyH_ready (rs:=[6]) (by kernel_rfl) (by simp) ?_
        refine AllReadyH.cons rfl (λK hK=>?_) AllReadyH.nil
        refine kG _ rfl _ _ _ rfl vS (by decide) w6 _ rfl Dv.out (by simp[Act.eval,Act.put]) (by simp[Act.eval,Act.put]) y.row ⟨_,_,_,rfl,PL.out⟩ xK xL ?_
        intro v9 w9 sU gP sI pM
        obtain ⟨A9,c9,Mm⟩:=sU.form
        obtain ⟨m9,P7⟩: ∃m,(ys++[y.row]).length=m:=⟨_,rfl⟩
        rw[P7]at Mm
        subst Mm
        clear P7
        have Aa:=hide sU
        have SI:Hid (some gR≠v.ownBlock):=hide (λe=>gG.ne Nj.out.ty (Dv.out.ty e.symm).2 (by decide) rfl)
        have Dw:=hide (Nj.out.grown sI SI.out)
        have J7:=hide (Qs.out.grown sI λk e=>⟨λe2=>gG.ne (Dv.out.ty e).2 (Qs.out.ty e2).2 (by decide) rfl,λhb=>by
         rcases hb with ⟨h,_⟩|⟨_,t,ht,_⟩
         ·exact h
         ·cases ht⟩)
        have PZ:=hide ((World.cell?_of_block (a:=⟨wr.heap.size,0,none⟩) (sI.block wr.heap.size (lt_of_cell (ah jE.out vH.out FC.out)) (λe=>gG.ne (QH.out.below jE.out) (Dv.out.ty e.symm).2 (by decide) rfl))).trans (ah jE.out vH.out FC.out))
        have qp:=hide (HL2.out.trans ((jE.out.mono HL2.out.size).trans gP))
        have j2:=Dw.out.c2
        have jf:=Dw.out.fz
        clear sU gP sI pM
        refine hK.out _ _ ?_ (λaB=>?_)
        ·exact PZ.out
        clear hK K hHeld
        have hHeld:=aB
        clear aB
        (try simp only[Act.put,bL])
        refine wpAnyH_take (i:=7) (v:=?_) rfl (by kernel_rfl) (by kernel_rfl) (by kernel_rfl) (λ_ _ _ h=>h) (Or.inl ⟨by rfl,?_⟩) hHeld ?_
        rotate_left
        ·intro w hSw
         try dsimp only at hSw
         go_simp
         try with_reducible rfl
        (try simp only[Act.put,bL])
        refine wpAnyH_ready (rs:=[8]) (by kernel_rfl) (by simp) ?_
        refine AllReadyH.cons rfl (λK hK=>?_) AllReadyH.nil
        go_simp
        refine hK.out _ _ ?_ (λaB=>?_)
        ·exact ae PZ.out (.inl Rq)
        clear hK K hHeld
        have hHeld:=aB
        clear aB
        (try simp only[Act.put,bL])
        refine wpAnyH_done (by kernel_rfl) ?_ _
        have FK:=hide (Aa.out.setBlk Dw.out.ty (.inr λ_ h=>h) (by decide) (by decide) 2 (.slice A9 m9 c9))
        have Ko:=hide (J7.out.setBlk Dw.out.ty (.inr λ_ h=>h) (by decide) (by decide) 2 (.slice A9 m9 c9))
        have Kt:=hide (Dw.out.set2 (.slice A9 m9 c9))
        have lu:=hide (qp.out.setCell (p:=⟨gR,2,none⟩) PH.out (.slice A9 m9 c9))
        go_wp2
        go_roundg (gk-1)
        case measure=>omega
        case rel=>exact ⟨k+1,_,ys++[y.row],by omega,by go_num,FJ.out,by simp;omega,Kt.out,FK.out,Ko.out,lu.out⟩
       ·go_simp
        refine hK.out _ _ ?_ (λaB=>?_)
        ·exact ah (aa jE.out af) vH.out FC.out
        clear hK K hHeld
        have hHeld:=aB
        clear aB
        (try simp only[Act.put,bL])
        have j2: ∀o,(w6.alloc o).cell? ⟨gR,2,none⟩=some v:=λo=>ah af Nj.out.lt Nj.out.c2
        refine wpAnyH_ready (rs:=[1]) (by kernel_rfl) (by simp) ?_
        refine AllReadyH.cons rfl (λK hK=>?_) AllReadyH.nil
        go_simp
        refine hK.out _ _ ?_ (λaB=>?_)
        ·exact ah (aa jE.out af) vH.out FC.out
        clear hK K hHeld
        have hHeld:=aB
        clear aB
        (try simp only[Act.put,bL])
        refine wpAnyH_ready (rs:=[6]) (by kernel_rfl) (by simp) ?_
        refine AllReadyH.cons rfl (λK hK=>?_) AllReadyH.nil
        refine kG _ rfl _ _ _ rfl vS (by decide) w6 _ rfl Dv.out (by simp[Act.eval,Act.put]) (by simp[Act.eval,Act.put]) y.row ⟨_,_,_,rfl,PL.out⟩ xK xL ?_
        intro v9 w9 sU gP sI pM
        obtain ⟨A9,c9,Mm⟩:=sU.form
        obtain ⟨m9,P7⟩: ∃m,(ys++[y.row]).length=m:=⟨_,rfl⟩
        rw[P7]at Mm
        subst Mm
        clear P7
        have Aa:=hide sU
        have SI:Hid (some gR≠v.ownBlock):=hide (λe=>gG.ne Nj.out.ty (Dv.out.ty e.symm).2 (by decide) rfl)
        have Dw:=hide (Nj.out.grown sI SI.out)
        have J7:=hide (Qs.out.grown sI λk e=>⟨λe2=>gG.ne (Dv.out.ty e).2 (Qs.out.ty e2).2 (by decide) rfl,λhb=>by
         rcases hb with ⟨h,_⟩|⟨_,t,ht,_⟩
         ·exact h
         ·cases ht⟩)
        have PZ:=hide ((World.cell?_of_block (a:=⟨wr.heap.size,0,none⟩) (sI.block wr.heap.size (lt_of_cell (ah jE.out vH.out FC.out)) (λe=>gG.ne (QH.out.below jE.out) (Dv.out.ty e.symm).2 (by decide) rfl))).trans (ah jE.out vH.out FC.out))
        have qp:=hide (HL2.out.trans ((jE.out.mono HL2.out.size).trans gP))
        have j2:=Dw.out.c2
        have jf:=Dw.out.fz
        clear sU gP sI pM
        refine hK.out _ _ ?_ (λaB=>?_)
        ·exact PZ.out
        clear hK K hHeld
        have hHeld:=aB
        clear aB
        (try simp only[Act.put,bL])
        refine wpAnyH_take (i:=7) (v:=?_) rfl (by kernel_rfl) (by kernel_rfl) (by kernel_rfl) (λ_ _ _ h=>h) (Or.inl ⟨by rfl,?_⟩) hHeld ?_
        rotate_left
        ·intro w hSw
         try dsimp only at hSw
         go_simp
         try with_reducible rfl
        (try simp only[Act.put,bL])
        refine wpAnyH_ready (rs:=[8]) (by kernel_rfl) (by simp) ?_
        refine AllReadyH.cons rfl (λK hK=>?_) AllReadyH.nil
        go_simp
        refine hK.out _ _ ?_ (λaB=>?_)
        ·exact ae PZ.out (.inl Rq)
        clear hK K hHeld
        have hHeld:=aB
        clear aB
        (try simp only[Act.put,bL])
        refine wpAnyH_done (by kernel_rfl) ?_ _
        have FK:=hide (Aa.out.setBlk Dw.out.ty (.inr λ_ h=>h) (by decide) (by decide) 2 (.slice A9 m9 c9))
        have Ko:=hide (J7.out.setBlk Dw.out.ty (.inr λ_ h=>h) (by decide) (by decide) 2 (.slice A9 m9 c9))
        have Kt:=hide (Dw.out.set2 (.slice A9 m9 c9))
        have lu:=hide (qp.out.setCell (p:=⟨gR,2,none⟩) PH.out (.slice A9 m9 c9))
        go_wp2
        go_roundg (gk-1)
        case measure=>omega
        case rel=>exact ⟨k+1,_,ys++[y.row],by omega,by go_num,FJ.out,by simp;omega,Kt.out,FK.out,Ko.out,lu.out⟩
   ·have HT:Hid (rows.take k=rows):=hide (List.take_of_length_le (by rw[HLEN.out];omega))
    have Zt:Hid (ys=jd cols x.cols rows row PV):=hide (by rw[Hg.out,HT.out])
    obtain ⟨A8,c8,YA⟩:=sJ.out.form
    obtain ⟨m8,Jn⟩: ∃m,ys.length=m:=⟨_,rfl⟩
    rw[Jn]at YA
    subst YA
    have HM8:=hide Jn
    clear Jn
    have xz:=hide (aa (aa xE.out uu.out) oW.out)
    have y0:=(fM.out.below xz.out).frozen 0
    have y1:=(fM.out.below xz.out).frozen 1
    have y2:=(fM.out.below xz.out).frozen 2
    have IC:=dI.out
    have c0:=PK.out.c0
    have c1':=PK.out.c1
    have c2':=PK.out.c2
    have jk:=hide (aa (aa (aa (aa jW.out sH.out) xE.out) uu.out) oW.out)
    obtain ⟨⟨LR,g0,g1,g2,g3,g4,g5,g6,g7,g8,g9,g10,g11,g12,g13⟩,⟨L2,r0,r1,r2,r3⟩,⟨L3,s0,s1,s2,s3⟩,L4,z0,z1,z2⟩:=UO.out _ xz.out
    go_wp2
    obtain rfl:=HJ.out
    refine bodyPost_ret (v:=.tuple #[.agg #[.string x.name,.slice A7 m7 c7,.slice A8 m8 c8],.int .i64 0]) (aA (cs:=[.string x.name,.slice A7 m7 c7,.slice A8 m8 c8]) rfl _ _ _ _ _ rfl rfl (bC z0 z1 z2) Tryz.underlying105 rfl (by kernel_rfl)) rfl ⟨⟨_,_,rfl,((((Wy.out.setBlk (fM.out.below xz.out).ty (.inr λ_ h=>h) (by decide) (by decide) _ _).setBlk ((fM.out.below xz.out).ty.set _ _ _) (.inr λ_ h=>h) (by decide) (by decide) _ _).setBlk (((fM.out.below xz.out).ty.set _ _ _).set _ _ _) (.inr λ_ h=>h) (by decide) (by decide) _ _)).rebase Yl.out.size,by rw[<-Zt.out];exact ((((sJ.out.setBlk (fM.out.below xz.out).ty (.inr λ_ h=>h) (by decide) (by decide) _ _).setBlk ((fM.out.below xz.out).ty.set _ _ _) (.inr λ_ h=>h) (by decide) (by decide) _ _).setBlk (((fM.out.below xz.out).ty.set _ _ _).set _ _ _) (.inr λ_ h=>h) (by decide) (by decide) _ _)).rebase Yl.out.size⟩,(((jk.out.setCell (by simp;omega) _).setCell (by simp;omega) _).setCell (by simp;omega) _)⟩
end Go.Proofs.YtggejcekmehocaaGreatDoor
