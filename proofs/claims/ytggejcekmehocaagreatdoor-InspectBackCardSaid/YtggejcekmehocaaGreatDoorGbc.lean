/-
  check.Explain for unique checks. (Printed by gen_exp0.py.) Plain law: what the closed example of chapter 28 gives. No program is in sight. inspect.Build. (Printed by gen_insb.py.)
-/
import Derived.Deep.DrawnRows
import Derived.Deep.DeepCutAuto
import Derived.Test.YtggejcekmehocaaGreatDoorGbb
import Derived.Test.YtggejcekmehocaaGreatDoorGar
import Derived.Test.YtggejcekmehocaaGreatDoorGai
import Derived.Test.YtggejcekmehocaaGreatDoorGaw
import Derived.Test.YtggejcekmehocaaGreatDoorGad
import Derived.Test.YtggejcekmehocaaGreatDoorGax
import Derived.Test.YtggejcekmehocaaGreatDoorGan
namespace Go.Proofs.YtggejcekmehocaaGreatDoor
set_option maxHeartbeats 4000000
set_option maxRecDepth 100000
open Go.RowKit Go.Maps
set_option linter.unusedSimpArgs false
set_option linter.unusedVariables false
attribute [local go_sem ↓] Go.wp_at_zero Go.wp_at_succ
instance:One (List Val):=⟨by rintro w S cs a ⟨A,n,c,rfl,_⟩ u hu;simp at hu;subst hu;rfl⟩
theorem OL.setBlk {α:Type}[Rep α]{e:TypeId}{B:Nat}{O:Nat->Prop}{T:List TypeId}{w:World}{v:Value}{xs:List α}(h:OL e B O T w v xs){t g:Nat}(hg:TyAt w t g)(hB:B<=g\/ ∀k,¬O k)(hne:t≠e)(hT:t∉T)(o:Nat)(u:Value):OL e B O T (w.setCell ⟨g,o,none⟩ u) v xs:=
 h.kept (λk hk=>Below.heap_setCell _ _ _ k (λq=>by
  have q:k=g:=q
  subst q
  rcases hk with (⟨ho,hk⟩|⟨_,t',ht',hk⟩)|hk
  ·rcases hB with hB|hB
   ·omega
   ·exact hB _ ho
  ·exact TyAt.ne hg hk (λe'=>hT (e'▸ht')) rfl
  ·exact TyAt.ne hg (h.ty hk).2 hne rfl)) (by simp[World.setCell])
structure RsnAt (w:World) (g:Nat) (nm:ByteArray) (A:Option Addr) (n c:Nat) (v:Value):Prop where
 c0:w.cell? ⟨g,0,none⟩=some (.string nm)
 c1:w.cell? ⟨g,1,none⟩=some (.slice A n c)
 c2:w.cell? ⟨g,2,none⟩=some v
 fz:w.frozen? ⟨g,2,none⟩=false
 ty:TyAt w 105 g
theorem RsnAt.lt {w:World}{g:Nat}{nm:ByteArray}{A:Option Addr}{n c:Nat}{v:Value}(h:RsnAt w g nm A n c v):g<w.heap.size:=lt_of_cell h.c0
theorem RsnAt.below {w w':World}{g:Nat}{nm:ByteArray}{A:Option Addr}{n c:Nat}{v:Value}(h:RsnAt w g nm A n c v)(hb:Below w.heap.size w w'):RsnAt w' g nm A n c v:=
 ⟨bat hb h.lt h.c0,bat hb h.lt h.c1,bat hb h.lt h.c2,((bcell hb).2 g 2 h.lt).trans h.fz,h.ty.below hb⟩
theorem RsnAt.grown {w w':World}{g:Nat}{nm:ByteArray}{A:Option Addr}{n c:Nat}{v:Value}(h:RsnAt w g nm A n c v){row:Option Nat}(hg:w.grownBy w' row)(hr:some g≠row):RsnAt w' g nm A n c v:=by
 have hb:=hg.block g h.lt hr
 refine ⟨(World.cell?_of_block (a:=⟨g,0,none⟩) hb).trans h.c0,(World.cell?_of_block (a:=⟨g,1,none⟩) hb).trans h.c1,(World.cell?_of_block (a:=⟨g,2,none⟩) hb).trans h.c2,?_,?_⟩
 ·obtain ⟨c,hc⟩:=h.ty
  exact frozen_of_row w' g 2 c _ (hb.trans hc)
 ·obtain ⟨c,hc⟩:=h.ty
  exact ⟨c,hb.trans hc⟩
def kA:ByteArray:=⟨#[97]⟩
def kB:ByteArray:=⟨#[98]⟩
def kNo:ByteArray:=⟨#[]⟩
def iV (n:Int):Val:=⟨2,n,⟨#[]⟩⟩
def k28Cols:List Col:=[⟨kA,2,false⟩,⟨kB,2,false⟩]
def k28C:Chk:={name:=⟨#[99]⟩,table:=kNo,kind:=0,cols:=[kA],other:=kNo,ocols:=[],low:=0,high:=0,cond:=[],ln:=0,ld:=0,mn:=0,md:=0,policy:=1}
structure Insp where
 rows:List Ent
 other:List Ent
 viol:List Ent
def noInsp:Insp:=⟨[],[],[]⟩
def buildS (c:Chk)(rc oc:List Col)(rr orr:List Ent)(zs:List Zone):Int×Insp:=
 if allErr c rc oc rr orr zs≠0 then (allErr c rc oc rr orr zs,noInsp) else (0,⟨rr,if usesO c.kind=true then orr else [],(violS c rc oc rr orr zs).2⟩)
theorem usesOI_any (w:World)(x:Chk)(A:Option Addr)(n c:Nat)(A':Option Addr)(n' c':Nat)(A'':Option Addr)(n'' c'':Nat):Calls Tryz.prog 38 #[.agg (chkCells x A n c A' n' c' A'' n'' c'').toArray] w λe w'=>e=.returned (.bool (usesO x.kind))/\Below w.heap.size w w':=by
 rw[usesO]
 simp only[chkCells]
 cases h3:(x.kind==3)
 ·go_enter Tryz.func38,Tryz.ntmps38
  go_wp2_with fail
  obtain ⟨W1,hW1⟩: ∃W,W=w.alloc (.cells #[.string x.name,.string x.table,.int .i64 x.kind,.slice A n c,.string x.other,.slice A' n' c',.int .i64 x.low,.int .i64 x.high,.slice A'' n'' c'',.int .i64 x.ln,.int .i64 x.ld,.int .i64 x.mn,.int .i64 x.md,.int .i64 x.policy] 27):=⟨_,rfl⟩
  have g0:W1.cell? ⟨w.heap.size,0,none⟩=some (.string x.name):=by rw[hW1];simp[go_sem]
  have g1:W1.cell? ⟨w.heap.size,1,none⟩=some (.string x.table):=by rw[hW1];simp[go_sem]
  have g2:W1.cell? ⟨w.heap.size,2,none⟩=some (.int .i64 x.kind):=by rw[hW1];simp[go_sem]
  have g3:W1.cell? ⟨w.heap.size,3,none⟩=some (.slice A n c):=by rw[hW1];simp[go_sem]
  have g4:W1.cell? ⟨w.heap.size,4,none⟩=some (.string x.other):=by rw[hW1];simp[go_sem]
  have g5:W1.cell? ⟨w.heap.size,5,none⟩=some (.slice A' n' c'):=by rw[hW1];simp[go_sem]
  have g6:W1.cell? ⟨w.heap.size,6,none⟩=some (.int .i64 x.low):=by rw[hW1];simp[go_sem]
  have g7:W1.cell? ⟨w.heap.size,7,none⟩=some (.int .i64 x.high):=by rw[hW1];simp[go_sem]
  have g8:W1.cell? ⟨w.heap.size,8,none⟩=some (.slice A'' n'' c''):=by rw[hW1];simp[go_sem]
  have g9:W1.cell? ⟨w.heap.size,9,none⟩=some (.int .i64 x.ln):=by rw[hW1];simp[go_sem]
  have g10:W1.cell? ⟨w.heap.size,10,none⟩=some (.int .i64 x.ld):=by rw[hW1];simp[go_sem]
  have g11:W1.cell? ⟨w.heap.size,11,none⟩=some (.int .i64 x.mn):=by rw[hW1];simp[go_sem]
  have g12:W1.cell? ⟨w.heap.size,12,none⟩=some (.int .i64 x.md):=by rw[hW1];simp[go_sem]
  have g13:W1.cell? ⟨w.heap.size,13,none⟩=some (.int .i64 x.policy):=by rw[hW1];simp[go_sem]
  have hbW1:Below w.heap.size w W1:=by rw[hW1];exact below_alloc
  have SZW1:Hid (W1.heap.size=w.heap.size+1):=hide (by rw[hW1];exact World.size_alloc _ _)
  rw[<-hW1]
  clear hW1
  have SG1:=hide hbW1
  clear hbW1
  have LR:=lt_of_cell g0
  go_wp2
  go_ret
  exact ⟨ret_bool (by simp),SG1.out⟩
 ·go_enter Tryz.func38,Tryz.ntmps38
  go_wp2_with fail
  obtain ⟨W1,hW1⟩: ∃W,W=w.alloc (.cells #[.string x.name,.string x.table,.int .i64 x.kind,.slice A n c,.string x.other,.slice A' n' c',.int .i64 x.low,.int .i64 x.high,.slice A'' n'' c'',.int .i64 x.ln,.int .i64 x.ld,.int .i64 x.mn,.int .i64 x.md,.int .i64 x.policy] 27):=⟨_,rfl⟩
  have g0:W1.cell? ⟨w.heap.size,0,none⟩=some (.string x.name):=by rw[hW1];simp[go_sem]
  have g1:W1.cell? ⟨w.heap.size,1,none⟩=some (.string x.table):=by rw[hW1];simp[go_sem]
  have g2:W1.cell? ⟨w.heap.size,2,none⟩=some (.int .i64 x.kind):=by rw[hW1];simp[go_sem]
  have g3:W1.cell? ⟨w.heap.size,3,none⟩=some (.slice A n c):=by rw[hW1];simp[go_sem]
  have g4:W1.cell? ⟨w.heap.size,4,none⟩=some (.string x.other):=by rw[hW1];simp[go_sem]
  have g5:W1.cell? ⟨w.heap.size,5,none⟩=some (.slice A' n' c'):=by rw[hW1];simp[go_sem]
  have g6:W1.cell? ⟨w.heap.size,6,none⟩=some (.int .i64 x.low):=by rw[hW1];simp[go_sem]
  have g7:W1.cell? ⟨w.heap.size,7,none⟩=some (.int .i64 x.high):=by rw[hW1];simp[go_sem]
  have g8:W1.cell? ⟨w.heap.size,8,none⟩=some (.slice A'' n'' c''):=by rw[hW1];simp[go_sem]
  have g9:W1.cell? ⟨w.heap.size,9,none⟩=some (.int .i64 x.ln):=by rw[hW1];simp[go_sem]
  have g10:W1.cell? ⟨w.heap.size,10,none⟩=some (.int .i64 x.ld):=by rw[hW1];simp[go_sem]
  have g11:W1.cell? ⟨w.heap.size,11,none⟩=some (.int .i64 x.mn):=by rw[hW1];simp[go_sem]
  have g12:W1.cell? ⟨w.heap.size,12,none⟩=some (.int .i64 x.md):=by rw[hW1];simp[go_sem]
  have g13:W1.cell? ⟨w.heap.size,13,none⟩=some (.int .i64 x.policy):=by rw[hW1];simp[go_sem]
  have hbW1:Below w.heap.size w W1:=by rw[hW1];exact below_alloc
  have SZW1:Hid (W1.heap.size=w.heap.size+1):=hide (by rw[hW1];exact World.size_alloc _ _)
  rw[<-hW1]
  clear hW1
  have SG2:=hide hbW1
  clear hbW1
  have LR:=lt_of_cell g0
  go_wp2
  go_ret
  exact ⟨ret_bool (by simp),SG2.out⟩
section
variable (w:World)(x:Chk)(A:Option Addr)(n c:Nat)(hn:In w A n c x.cols)(A':Option Addr)(n' c':Nat)(hn':In w A' n' c' x.ocols)(A'':Option Addr)(n'' c'':Nat)(hq:In w A'' n'' c'' x.cond)(hw:Words w)(rn:ByteArray)(A1:Option Addr)(n1 c1:Nat)(cols:List Col)(hc:In w A1 n1 c1 cols)(Ak:Option Addr)(nk ck:Nat)(A3:Option Addr)(n3 c3:Nat)(rows:List Ent)(hr:In w A3 n3 c3 rows)(on:ByteArray)(A2:Option Addr)(n2 c2:Nat)(ocols:List Col)(ho:In w A2 n2 c2 ocols)(Al:Option Addr)(nl cl:Nat)(A4:Option Addr)(n4 c4:Nat)(orows:List Ent)(hor:In w A4 n4 c4 orows)(A5:Option Addr)(n5 c5:Nat)(zs:List Zone)(hz:In w A5 n5 c5 zs)(hb0:n<=4096)(hb1:n'<=4096)(hb2:n1<=4096)(hb3:n2<=4096)
include w x A n c hn A' n' c' hn' A'' n'' c'' hq hw rn A1 n1 c1 cols hc Ak nk ck A3 n3 c3 rows hr on A2 n2 c2 ocols ho Al nl cl A4 n4 c4 orows hor A5 n5 c5 zs hz hb0 hb1 hb2 hb3
theorem buildI_err (E:Int)(hE:allErr x cols ocols rows orows zs=E)(hE0:¬E=0):
  Calls Tryz.prog 13 #[.agg (chkCells x A n c A' n' c' A'' n'' c'').toArray,.agg #[.string rn,.slice A1 n1 c1,.slice Ak nk ck,.slice A3 n3 c3],.agg #[.string on,.slice A2 n2 c2,.slice Al nl cl,.slice A4 n4 c4],.slice A5 n5 c5] w
   λe w'=>(∃v7 v8 v9,e=.returned (.tuple #[.agg #[v7,v8,v9],.int .i64 (buildS x cols ocols rows orows zs).1])/\OE w.heap.size w' v7 (buildS x cols ocols rows orows zs).2.rows/\OE w.heap.size w' v8 (buildS x cols ocols rows orows zs).2.other/\OE w.heap.size w' v9 (buildS x cols ocols rows orows zs).2.viol)/\Below w.heap.size w w':=by
 have HVW:=hide λW hn hn' hq hw hc hr ho hor hz=>violations_any W x A n c hn A' n' c' hn' A'' n'' c'' hq hw rn A1 n1 c1 cols hc Ak nk ck A3 n3 c3 rows hr on A2 n2 c2 ocols ho Al nl cl A4 n4 c4 orows hor A5 n5 c5 zs hz hb0 hb1 hb2 hb3
 have HD:=hide (show buildS x cols ocols rows orows zs=if allErr x cols ocols rows orows zs≠0 then (allErr x cols ocols rows orows zs,noInsp) else (0,⟨rows,if usesO x.kind=true then orows else [],(violS x cols ocols rows orows zs).2⟩) from rfl)
 have HVE:=hide (show (violS x cols ocols rows orows zs).1=allErr x cols ocols rows orows zs from by rw[violS];split <;> simp_all)
 obtain ⟨J,hJ⟩: ∃J,buildS x cols ocols rows orows zs=J:=⟨_,rfl⟩
 obtain ⟨VL,hVL⟩: ∃l,(violS x cols ocols rows orows zs).2=l:=⟨_,rfl⟩
 rw[hJ,hVL]at HD
 rw[hVL]at HVW
 rw[hJ]
 clear hJ hVL
 rw[hE]at HD HVE
 clear hE
 simp only[chkCells]at HVW⊢
 go_enter Tryz.func13,Tryz.ntmps13
 have HN:=hide hn
 clear hn
 have HN2:=hide hn'
 clear hn'
 have HQ:=hide hq
 clear hq
 have HW:=hide hw
 clear hw
 have HC:=hide hc
 clear hc
 have HO:=hide ho
 clear ho
 have HZ:=hide hz
 clear hz
 have HR:=hide hr
 clear hr
 have HOR:=hide hor
 clear hor
 go_wp2_with fail
 obtain ⟨W3,hW3,SZW3,hbW3,o1⟩:=start28 w x A n c A' n' c' A'' n'' c'' rn A1 n1 c1 Ak nk ck A3 n3 c3 on A2 n2 c2 Al nl cl A4 n4 c4
 rw[<-hW3]
 clear hW3
 have SG2:=hide hbW3
 clear hbW3
 obtain ⟨W4,hW4⟩: ∃W,W=W3.alloc (.cells #[.slice none 0 0,.slice none 0 0,.slice none 0 0] 36):=⟨_,rfl⟩
 obtain ⟨hbW4,SZW4,z0,z1,z2⟩:=boxed3 (b:=w.heap.size+1+1+1) hW4 (by rw[SZW3.out])
 have RKW4:Hid (RowBlk W4 (w.heap.size+1+1+1) 36 3):=hide (by rw[<-SZW3.out,hW4];exact RowBlk.made _ _ _ _ rfl)
 rw[<-hW4]
 clear hW4
 have SG3:=hide hbW4
 clear hbW4
 have L4:=lt_of_cell z0
 have hs0:=(below_trans SG2.out SG3.out).size
 obtain ⟨⟨LR,g0,g1,g2,g3,g4,g5,g6,g7,g8,g9,g10,g11,g12,g13⟩,⟨L2,r0,r1,r2,r3⟩,L3,s0,s1,s2,s3⟩:=o1.out _ SG3.out
 go_wp2_with fail
 have BC5:=hide (below_trans SG2.out SG3.out)
 refine (HVW.out _ (HN.out.below BC5.out) (HN2.out.below BC5.out) (HQ.out.below BC5.out) (HW.out.below BC5.out) (HC.out.below BC5.out) (HR.out.below BC5.out) (HO.out.below BC5.out) (HOR.out.below BC5.out) (HZ.out.below BC5.out)).mono ?_
 rintro e w4 ⟨⟨bv,rfl,hol⟩,hb4⟩
 have o6:=mix (bun14 g0 g1 g2 g3 g4 g5 g6 g7 g8 g9 g10 g11 g12 g13) (mix (bun4 r0 r1 r2 r3) (mix (bun4 s0 s1 s2 s3) (bun3 z0 z1 z2)))
 have SG7:=hide hb4
 clear hb4
 rw[HVE.out]
 obtain ⟨Ab,cb,rfl,hib⟩:=ol_inn hol
 obtain ⟨mb,hmb⟩: ∃m,VL.length=m:=⟨_,rfl⟩
 rw[hmb]at hib⊢
 clear hol hmb
 have HIB:=hide hib
 clear hib
 have q0:(E != 0)=true:=by simpa using hE0
 have HJ:Hid (J=(E,noInsp)):=hide (by rw[HD.out,if_pos hE0])
 have y0:=(RKW4.out.below SG7.out).frozen 0
 have y1:=(RKW4.out.below SG7.out).frozen 1
 have y2:=(RKW4.out.below SG7.out).frozen 2
 have HBB:=hide (below_trans (below_trans SG2.out SG3.out) SG7.out)
 obtain ⟨⟨LR,g0,g1,g2,g3,g4,g5,g6,g7,g8,g9,g10,g11,g12,g13⟩,⟨L2,r0,r1,r2,r3⟩,⟨L3,s0,s1,s2,s3⟩,L4,z0,z1,z2⟩:=o6.out _ SG7.out
 go_wp2
 all_goals (try (exfalso;go_light;simp_all;done))
 obtain rfl:=HJ.out
 refine bodyPost_ret (v:=.tuple #[.agg #[.slice none 0 0,.slice none 0 0,.slice none 0 0],.int .i64 E]) (results_cells2 (cs:=[.slice none 0 0,.slice none 0 0,.slice none 0 0]) rfl _ _ _ _ _ rfl rfl (set_three z0 z1 z2) Tryz.underlying36 rfl (by kernel_rfl)) rfl ⟨⟨_,_,_,rfl,OL.nil ((((HBB.out.setCell (by simp;omega) _).setCell (by simp;omega) _).setCell (by simp;omega) _)).size,OL.nil ((((HBB.out.setCell (by simp;omega) _).setCell (by simp;omega) _).setCell (by simp;omega) _)).size,OL.nil ((((HBB.out.setCell (by simp;omega) _).setCell (by simp;omega) _).setCell (by simp;omega) _)).size⟩,(((HBB.out.setCell (by simp;omega) _).setCell (by simp;omega) _).setCell (by simp;omega) _)⟩
theorem buildI_one (hE:allErr x cols ocols rows orows zs=0)(hu:usesO x.kind=false):
  Calls Tryz.prog 13 #[.agg (chkCells x A n c A' n' c' A'' n'' c'').toArray,.agg #[.string rn,.slice A1 n1 c1,.slice Ak nk ck,.slice A3 n3 c3],.agg #[.string on,.slice A2 n2 c2,.slice Al nl cl,.slice A4 n4 c4],.slice A5 n5 c5] w
   λe w'=>(∃v7 v8 v9,e=.returned (.tuple #[.agg #[v7,v8,v9],.int .i64 (buildS x cols ocols rows orows zs).1])/\OE w.heap.size w' v7 (buildS x cols ocols rows orows zs).2.rows/\OE w.heap.size w' v8 (buildS x cols ocols rows orows zs).2.other/\OE w.heap.size w' v9 (buildS x cols ocols rows orows zs).2.viol)/\Below w.heap.size w w':=by
 have HVW:=hide λW hn hn' hq hw hc hr ho hor hz=>violations_any W x A n c hn A' n' c' hn' A'' n'' c'' hq hw rn A1 n1 c1 cols hc Ak nk ck A3 n3 c3 rows hr on A2 n2 c2 ocols ho Al nl cl A4 n4 c4 orows hor A5 n5 c5 zs hz hb0 hb1 hb2 hb3
 have HD:=hide (show buildS x cols ocols rows orows zs=if allErr x cols ocols rows orows zs≠0 then (allErr x cols ocols rows orows zs,noInsp) else (0,⟨rows,if usesO x.kind=true then orows else [],(violS x cols ocols rows orows zs).2⟩) from rfl)
 have HVE:=hide (show (violS x cols ocols rows orows zs).1=allErr x cols ocols rows orows zs from by rw[violS];split <;> simp_all)
 obtain ⟨J,hJ⟩: ∃J,buildS x cols ocols rows orows zs=J:=⟨_,rfl⟩
 obtain ⟨VL,hVL⟩: ∃l,(violS x cols ocols rows orows zs).2=l:=⟨_,rfl⟩
 rw[hJ,hVL]at HD
 rw[hVL]at HVW
 rw[hJ]
 clear hJ hVL
 obtain ⟨hE1,hE2,hE3⟩:=all_zero hE
 obtain ⟨hbz,htz,hrz⟩:=tabErr_zero hE2
 have HLEN:=hide hr.len
 have HN34:=hide (show n3<=4096 from by rw[<-hr.len];exact bag_le hbz)
 have HRR:Hid (∀y∈rows,y.row.length<=4096):=hide λy hy=>by have:=bag_row hbz y hy;omega
 have HUS:=hide λW=>usesOI_any W x A n c A' n' c' A'' n'' c''
 simp only[chkCells]at HUS
 have HUV:=hide hu
 have HJ:Hid (J=(0,⟨rows,[],VL⟩)):=hide (by rw[HD.out,if_neg (by rw[hE];simp),hu];rfl)
 rw[hE]at HVE
 clear hE hE1 hE2 hE3 hbz htz hrz hu HD
 simp only[chkCells]at HVW⊢
 go_enter Tryz.func13,Tryz.ntmps13
 have HN:=hide hn
 clear hn
 have HN2:=hide hn'
 clear hn'
 have HQ:=hide hq
 clear hq
 have HW:=hide hw
 clear hw
 have HC:=hide hc
 clear hc
 have HO:=hide ho
 clear ho
 have HZ:=hide hz
 clear hz
 have HR:=hide hr
 clear hr
 have HOR:=hide hor
 clear hor
 go_wp2_with fail
 obtain ⟨W3,hW3,SZW3,hbW3,o8⟩:=start28 w x A n c A' n' c' A'' n'' c'' rn A1 n1 c1 Ak nk ck A3 n3 c3 on A2 n2 c2 Al nl cl A4 n4 c4
 rw[<-hW3]
 clear hW3
 have SG9:=hide hbW3
 clear hbW3
 obtain ⟨W4,hW4⟩: ∃W,W=W3.alloc (.cells #[.slice none 0 0,.slice none 0 0,.slice none 0 0] 36):=⟨_,rfl⟩
 obtain ⟨hbW4,SZW4,z0,z1,z2⟩:=boxed3 (b:=w.heap.size+1+1+1) hW4 (by rw[SZW3.out])
 have RKW4:Hid (RowBlk W4 (w.heap.size+1+1+1) 36 3):=hide (by rw[<-SZW3.out,hW4];exact RowBlk.made _ _ _ _ rfl)
 rw[<-hW4]
 clear hW4
 have SG10:=hide hbW4
 clear hbW4
 have L4:=lt_of_cell z0
 have hs0:=(below_trans SG9.out SG10.out).size
 obtain ⟨⟨LR,g0,g1,g2,g3,g4,g5,g6,g7,g8,g9,g10,g11,g12,g13⟩,⟨L2,r0,r1,r2,r3⟩,L3,s0,s1,s2,s3⟩:=o8.out _ SG10.out
 go_wp2_with fail
 have BC12:=hide (below_trans SG9.out SG10.out)
 refine (HVW.out _ (HN.out.below BC12.out) (HN2.out.below BC12.out) (HQ.out.below BC12.out) (HW.out.below BC12.out) (HC.out.below BC12.out) (HR.out.below BC12.out) (HO.out.below BC12.out) (HOR.out.below BC12.out) (HZ.out.below BC12.out)).mono ?_
 rintro e w11 ⟨⟨bv,rfl,hol⟩,hb11⟩
 have o13:=mix (bun14 g0 g1 g2 g3 g4 g5 g6 g7 g8 g9 g10 g11 g12 g13) (mix (bun4 r0 r1 r2 r3) (mix (bun4 s0 s1 s2 s3) (bun3 z0 z1 z2)))
 have SG14:=hide hb11
 clear hb11
 rw[HVE.out]
 obtain ⟨Ab,cb,rfl⟩:=hol.form
 obtain ⟨mb,hmb⟩: ∃m,VL.length=m:=⟨_,rfl⟩
 rw[hmb]at hol⊢
 replace hol:=hol.rebase hs0
 have HLV:=hide hmb
 clear hmb
 have HVO:=hide hol
 clear hol
 have q0:((0:Int) != 0)=false:=by decide
 have hs7:=(below_trans (below_trans SG9.out SG10.out) SG14.out).size
 obtain ⟨⟨LR,g0,g1,g2,g3,g4,g5,g6,g7,g8,g9,g10,g11,g12,g13⟩,⟨L2,r0,r1,r2,r3⟩,⟨L3,s0,s1,s2,s3⟩,L4,z0,z1,z2⟩:=o13.out _ SG14.out
 go_wp2_with fail
 have BC16:=hide (below_trans (below_trans SG9.out SG10.out) SG14.out)
 refine (copiedI_any _ A3 n3 c3 rows (HR.out.below BC16.out) HN34.out HRR.out).mono ?_
 rintro e w15 ⟨⟨v7,rfl,h7⟩,hb15⟩
 have SG17:=hide hb15
 clear hb15
 replace h7:=h7.rebase hs7
 obtain ⟨A7,c7,rfl⟩:=h7.form
 rw[HLEN.out]at h7⊢
 have H7:=hide h7
 clear h7
 obtain ⟨WB,rfl⟩: ∃W,W=w15:=⟨_,rfl⟩
 have BC18:=hide (below_trans SG14.out SG17.out)
 obtain ⟨⟨LR,g0,g1,g2,g3,g4,g5,g6,g7,g8,g9,g10,g11,g12,g13⟩,⟨L2,r0,r1,r2,r3⟩,⟨L3,s0,s1,s2,s3⟩,L4,z0,z1,z2⟩:=o13.out _ BC18.out
 have HNE:=hide (show ¬w.heap.size+1+1+1=WB.heap.size from by have:=L4;(try simp at this);omega)
 go_wp2_with fail
 obtain ⟨W6,hW6⟩: ∃W,W=WB.alloc (.cells #[.slice A7 n3 c7,.slice none 0 0,.slice Ab mb cb] 36):=⟨_,rfl⟩
 obtain ⟨hbW6,SZW6,v0,v1,v2⟩:=boxed3 hW6 rfl
 have RKW6:Hid (RowBlk W6 (WB.heap.size) 36 3):=hide (by rw[hW6];exact RowBlk.made _ _ _ _ rfl)
 rw[<-hW6]
 clear hW6
 have SG19:=hide hbW6
 clear hbW6
 have L6:=lt_of_cell v0
 have BC21:=hide (below_trans (below_trans SG14.out SG17.out) SG19.out)
 obtain ⟨⟨LR,g0,g1,g2,g3,g4,g5,g6,g7,g8,g9,g10,g11,g12,g13⟩,⟨L2,r0,r1,r2,r3⟩,⟨L3,s0,s1,s2,s3⟩,L4,z0,z1,z2⟩:=o13.out _ BC21.out
 go_wp2_with fail
 refine (HUS.out _).mono ?_
 rintro e w20 ⟨rfl,hb20⟩
 have o22:=mix (bun14 g0 g1 g2 g3 g4 g5 g6 g7 g8 g9 g10 g11 g12 g13) (mix (bun4 r0 r1 r2 r3) (mix (bun4 s0 s1 s2 s3) (mix (bun3 z0 z1 z2) (bun3 v0 v1 v2))))
 have SG23:=hide hb20
 clear hb20
 rw[HUV.out]
 have BC24:=hide (below_trans (below_trans (below_trans SG14.out SG17.out) SG19.out) SG23.out)
 have y0:=(RKW4.out.below BC24.out).frozen 0
 have y1:=(RKW4.out.below BC24.out).frozen 1
 have y2:=(RKW4.out.below BC24.out).frozen 2
 have x0:=(RKW6.out.below SG23.out).frozen 0
 have x1:=(RKW6.out.below SG23.out).frozen 1
 have x2:=(RKW6.out.below SG23.out).frozen 2
 have hty4:=(RKW4.out.below BC24.out).ty
 have hty6:=(RKW6.out.below SG23.out).ty
 have HNEo:=HNE.out
 have HBB:=hide (below_trans (below_trans (below_trans (below_trans (below_trans SG9.out SG10.out) SG14.out) SG17.out) SG19.out) SG23.out)
 obtain ⟨⟨LR,g0,g1,g2,g3,g4,g5,g6,g7,g8,g9,g10,g11,g12,g13⟩,⟨L2,r0,r1,r2,r3⟩,⟨L3,s0,s1,s2,s3⟩,⟨L4,z0,z1,z2⟩,L6,v0,v1,v2⟩:=o22.out _ SG23.out
 have hgl:=L6
 go_wp2
 obtain rfl:=HJ.out
 have BC25:=hide (below_trans (below_trans SG17.out SG19.out) SG23.out)
 have BC26:=hide (below_trans SG19.out SG23.out)
 refine bodyPost_ret (v:=.tuple #[.agg #[.slice A7 n3 c7,.slice none 0 0,.slice Ab mb cb],.int .i64 0]) (results_cells2 (cs:=[.slice A7 n3 c7,.slice none 0 0,.slice Ab mb cb]) rfl _ _ _ _ _ rfl rfl (set_three z0 z1 z2) Tryz.underlying36 rfl (by kernel_rfl)) rfl ⟨⟨_,_,_,rfl,((((H7.out.below BC26.out).setBlk hty4 (.inr λ_ h=>h) (by decide) (by decide) _ _).setBlk (hty4.set _ _ _) (.inr λ_ h=>h) (by decide) (by decide) _ _).setBlk ((hty4.set _ _ _).set _ _ _) (.inr λ_ h=>h) (by decide) (by decide) _ _),OL.nil ((((HBB.out.setCell (by simp;omega) _).setCell (by simp;omega) _).setCell (by simp;omega) _)).size,((((HVO.out.below BC25.out).setBlk hty4 (.inr λ_ h=>h) (by decide) (by decide) _ _).setBlk (hty4.set _ _ _) (.inr λ_ h=>h) (by decide) (by decide) _ _).setBlk ((hty4.set _ _ _).set _ _ _) (.inr λ_ h=>h) (by decide) (by decide) _ _)⟩,(((HBB.out.setCell (by simp;omega) _).setCell (by simp;omega) _).setCell (by simp;omega) _)⟩
theorem buildI_two (hE:allErr x cols ocols rows orows zs=0)(hu:usesO x.kind=true):
  Calls Tryz.prog 13 #[.agg (chkCells x A n c A' n' c' A'' n'' c'').toArray,.agg #[.string rn,.slice A1 n1 c1,.slice Ak nk ck,.slice A3 n3 c3],.agg #[.string on,.slice A2 n2 c2,.slice Al nl cl,.slice A4 n4 c4],.slice A5 n5 c5] w
   λe w'=>(∃v7 v8 v9,e=.returned (.tuple #[.agg #[v7,v8,v9],.int .i64 (buildS x cols ocols rows orows zs).1])/\OE w.heap.size w' v7 (buildS x cols ocols rows orows zs).2.rows/\OE w.heap.size w' v8 (buildS x cols ocols rows orows zs).2.other/\OE w.heap.size w' v9 (buildS x cols ocols rows orows zs).2.viol)/\Below w.heap.size w w':=by
 have HVW:=hide λW hn hn' hq hw hc hr ho hor hz=>violations_any W x A n c hn A' n' c' hn' A'' n'' c'' hq hw rn A1 n1 c1 cols hc Ak nk ck A3 n3 c3 rows hr on A2 n2 c2 ocols ho Al nl cl A4 n4 c4 orows hor A5 n5 c5 zs hz hb0 hb1 hb2 hb3
 have HD:=hide (show buildS x cols ocols rows orows zs=if allErr x cols ocols rows orows zs≠0 then (allErr x cols ocols rows orows zs,noInsp) else (0,⟨rows,if usesO x.kind=true then orows else [],(violS x cols ocols rows orows zs).2⟩) from rfl)
 have HVE:=hide (show (violS x cols ocols rows orows zs).1=allErr x cols ocols rows orows zs from by rw[violS];split <;> simp_all)
 obtain ⟨J,hJ⟩: ∃J,buildS x cols ocols rows orows zs=J:=⟨_,rfl⟩
 obtain ⟨VL,hVL⟩: ∃l,(violS x cols ocols rows orows zs).2=l:=⟨_,rfl⟩
 rw[hJ,hVL]at HD
 rw[hVL]at HVW
 rw[hJ]
 clear hJ hVL
 obtain ⟨hE1,hE2,hE3⟩:=all_zero hE
 obtain ⟨hbz,htz,hrz⟩:=tabErr_zero hE2
 have HLEN:=hide hr.len
 have HN34:=hide (show n3<=4096 from by rw[<-hr.len];exact bag_le hbz)
 have HRR:Hid (∀y∈rows,y.row.length<=4096):=hide λy hy=>by have:=bag_row hbz y hy;omega
 have HUS:=hide λW=>usesOI_any W x A n c A' n' c' A'' n'' c''
 simp only[chkCells]at HUS
 have HUV:=hide hu
 have hT2:=hE3 hu
 obtain ⟨hbz2,htz2,hrz2⟩:=tabErr_zero hT2
 have HLO:=hide hor.len
 have HN44:=hide (show n4<=4096 from by rw[<-hor.len];exact bag_le hbz2)
 have HRO:Hid (∀y∈orows,y.row.length<=4096):=hide λy hy=>by have:=bag_row hbz2 y hy;omega
 have HJ:Hid (J=(0,⟨rows,orows,VL⟩)):=hide (by rw[HD.out,if_neg (by rw[hE];simp),hu];rfl)
 rw[hE]at HVE
 clear hE hE1 hE2 hE3 hbz htz hrz hu HD hT2 hbz2 htz2 hrz2
 simp only[chkCells]at HVW⊢
 go_enter Tryz.func13,Tryz.ntmps13
 have HN:=hide hn
 clear hn
 have HN2:=hide hn'
 clear hn'
 have HQ:=hide hq
 clear hq
 have HW:=hide hw
 clear hw
 have HC:=hide hc
 clear hc
 have HO:=hide ho
 clear ho
 have HZ:=hide hz
 clear hz
 have HR:=hide hr
 clear hr
 have HOR:=hide hor
 clear hor
 go_wp2_with fail
 obtain ⟨W3,hW3,SZW3,hbW3,o27⟩:=start28 w x A n c A' n' c' A'' n'' c'' rn A1 n1 c1 Ak nk ck A3 n3 c3 on A2 n2 c2 Al nl cl A4 n4 c4
 rw[<-hW3]
 clear hW3
 have SG28:=hide hbW3
 clear hbW3
 obtain ⟨W4,hW4⟩: ∃W,W=W3.alloc (.cells #[.slice none 0 0,.slice none 0 0,.slice none 0 0] 36):=⟨_,rfl⟩
 obtain ⟨hbW4,SZW4,z0,z1,z2⟩:=boxed3 (b:=w.heap.size+1+1+1) hW4 (by rw[SZW3.out])
 have RKW4:Hid (RowBlk W4 (w.heap.size+1+1+1) 36 3):=hide (by rw[<-SZW3.out,hW4];exact RowBlk.made _ _ _ _ rfl)
 rw[<-hW4]
 clear hW4
 have SG29:=hide hbW4
 clear hbW4
 have L4:=lt_of_cell z0
 have hs0:=(below_trans SG28.out SG29.out).size
 obtain ⟨⟨LR,g0,g1,g2,g3,g4,g5,g6,g7,g8,g9,g10,g11,g12,g13⟩,⟨L2,r0,r1,r2,r3⟩,L3,s0,s1,s2,s3⟩:=o27.out _ SG29.out
 go_wp2_with fail
 have BC31:=hide (below_trans SG28.out SG29.out)
 refine (HVW.out _ (HN.out.below BC31.out) (HN2.out.below BC31.out) (HQ.out.below BC31.out) (HW.out.below BC31.out) (HC.out.below BC31.out) (HR.out.below BC31.out) (HO.out.below BC31.out) (HOR.out.below BC31.out) (HZ.out.below BC31.out)).mono ?_
 rintro e w30 ⟨⟨bv,rfl,hol⟩,hb30⟩
 have o32:=mix (bun14 g0 g1 g2 g3 g4 g5 g6 g7 g8 g9 g10 g11 g12 g13) (mix (bun4 r0 r1 r2 r3) (mix (bun4 s0 s1 s2 s3) (bun3 z0 z1 z2)))
 have SG33:=hide hb30
 clear hb30
 rw[HVE.out]
 obtain ⟨Ab,cb,rfl⟩:=hol.form
 obtain ⟨mb,hmb⟩: ∃m,VL.length=m:=⟨_,rfl⟩
 rw[hmb]at hol⊢
 replace hol:=hol.rebase hs0
 have HLV:=hide hmb
 clear hmb
 have HVO:=hide hol
 clear hol
 have q0:((0:Int) != 0)=false:=by decide
 have hs7:=(below_trans (below_trans SG28.out SG29.out) SG33.out).size
 obtain ⟨⟨LR,g0,g1,g2,g3,g4,g5,g6,g7,g8,g9,g10,g11,g12,g13⟩,⟨L2,r0,r1,r2,r3⟩,⟨L3,s0,s1,s2,s3⟩,L4,z0,z1,z2⟩:=o32.out _ SG33.out
 go_wp2_with fail
 have BC35:=hide (below_trans (below_trans SG28.out SG29.out) SG33.out)
 refine (copiedI_any _ A3 n3 c3 rows (HR.out.below BC35.out) HN34.out HRR.out).mono ?_
 rintro e w34 ⟨⟨v7,rfl,h7⟩,hb34⟩
 have SG36:=hide hb34
 clear hb34
 replace h7:=h7.rebase hs7
 obtain ⟨A7,c7,rfl⟩:=h7.form
 rw[HLEN.out]at h7⊢
 have H7:=hide h7
 clear h7
 obtain ⟨WB,rfl⟩: ∃W,W=w34:=⟨_,rfl⟩
 have BC37:=hide (below_trans SG33.out SG36.out)
 obtain ⟨⟨LR,g0,g1,g2,g3,g4,g5,g6,g7,g8,g9,g10,g11,g12,g13⟩,⟨L2,r0,r1,r2,r3⟩,⟨L3,s0,s1,s2,s3⟩,L4,z0,z1,z2⟩:=o32.out _ BC37.out
 have HNE:=hide (show ¬w.heap.size+1+1+1=WB.heap.size from by have:=L4;(try simp at this);omega)
 go_wp2_with fail
 obtain ⟨W6,hW6⟩: ∃W,W=WB.alloc (.cells #[.slice A7 n3 c7,.slice none 0 0,.slice Ab mb cb] 36):=⟨_,rfl⟩
 obtain ⟨hbW6,SZW6,v0,v1,v2⟩:=boxed3 hW6 rfl
 have RKW6:Hid (RowBlk W6 (WB.heap.size) 36 3):=hide (by rw[hW6];exact RowBlk.made _ _ _ _ rfl)
 rw[<-hW6]
 clear hW6
 have SG38:=hide hbW6
 clear hbW6
 have L6:=lt_of_cell v0
 have BC40:=hide (below_trans (below_trans SG33.out SG36.out) SG38.out)
 obtain ⟨⟨LR,g0,g1,g2,g3,g4,g5,g6,g7,g8,g9,g10,g11,g12,g13⟩,⟨L2,r0,r1,r2,r3⟩,⟨L3,s0,s1,s2,s3⟩,L4,z0,z1,z2⟩:=o32.out _ BC40.out
 go_wp2_with fail
 refine (HUS.out _).mono ?_
 rintro e w39 ⟨rfl,hb39⟩
 have o41:=mix (bun14 g0 g1 g2 g3 g4 g5 g6 g7 g8 g9 g10 g11 g12 g13) (mix (bun4 r0 r1 r2 r3) (mix (bun4 s0 s1 s2 s3) (mix (bun3 z0 z1 z2) (bun3 v0 v1 v2))))
 have SG42:=hide hb39
 clear hb39
 rw[HUV.out]
 have hs8:=(below_trans (below_trans (below_trans (below_trans (below_trans SG28.out SG29.out) SG33.out) SG36.out) SG38.out) SG42.out).size
 obtain ⟨⟨LR,g0,g1,g2,g3,g4,g5,g6,g7,g8,g9,g10,g11,g12,g13⟩,⟨L2,r0,r1,r2,r3⟩,⟨L3,s0,s1,s2,s3⟩,⟨L4,z0,z1,z2⟩,L6,v0,v1,v2⟩:=o41.out _ SG42.out
 go_wp2_with fail
 have BC44:=hide (below_trans (below_trans (below_trans (below_trans (below_trans SG28.out SG29.out) SG33.out) SG36.out) SG38.out) SG42.out)
 refine (copiedI_any _ A4 n4 c4 orows (HOR.out.below BC44.out) HN44.out HRO.out).mono ?_
 rintro e w43 ⟨⟨v8,rfl,h8⟩,hb43⟩
 have SG45:=hide (below_trans SG42.out hb43)
 clear hb43
 replace h8:=h8.rebase hs8
 obtain ⟨A8,c8,rfl⟩:=h8.form
 rw[HLO.out]at h8⊢
 have H8:=hide h8
 clear h8
 have BC46:=hide (below_trans (below_trans (below_trans SG33.out SG36.out) SG38.out) SG45.out)
 have y0:=(RKW4.out.below BC46.out).frozen 0
 have y1:=(RKW4.out.below BC46.out).frozen 1
 have y2:=(RKW4.out.below BC46.out).frozen 2
 have x0:=(RKW6.out.below SG45.out).frozen 0
 have x1:=(RKW6.out.below SG45.out).frozen 1
 have x2:=(RKW6.out.below SG45.out).frozen 2
 have hty4:=(RKW4.out.below BC46.out).ty
 have hty6:=(RKW6.out.below SG45.out).ty
 have HNEo:=HNE.out
 have HBB:=hide (below_trans (below_trans (below_trans (below_trans (below_trans SG28.out SG29.out) SG33.out) SG36.out) SG38.out) SG45.out)
 obtain ⟨⟨LR,g0,g1,g2,g3,g4,g5,g6,g7,g8,g9,g10,g11,g12,g13⟩,⟨L2,r0,r1,r2,r3⟩,⟨L3,s0,s1,s2,s3⟩,⟨L4,z0,z1,z2⟩,L6,v0,v1,v2⟩:=o41.out _ SG45.out
 have hgl:=L6
 go_wp2
 obtain rfl:=HJ.out
 have BC47:=hide (below_trans (below_trans SG36.out SG38.out) SG45.out)
 have BC48:=hide (below_trans SG38.out SG45.out)
 refine bodyPost_ret (v:=.tuple #[.agg #[.slice A7 n3 c7,.slice A8 n4 c8,.slice Ab mb cb],.int .i64 0]) (results_cells2 (cs:=[.slice A7 n3 c7,.slice A8 n4 c8,.slice Ab mb cb]) rfl _ _ _ _ _ rfl rfl (set_three (set_far z0 (.inl HNE.out)) (set_far z1 (.inl HNE.out)) (set_far z2 (.inl HNE.out))) Tryz.underlying36 rfl (by kernel_rfl)) rfl ⟨⟨_,_,_,rfl,(((((H7.out.below BC48.out).setBlk hty6 (.inr λ_ h=>h) (by decide) (by decide) _ _).setBlk (hty4.set _ _ _) (.inr λ_ h=>h) (by decide) (by decide) _ _).setBlk ((hty4.set _ _ _).set _ _ _) (.inr λ_ h=>h) (by decide) (by decide) _ _).setBlk (((hty4.set _ _ _).set _ _ _).set _ _ _) (.inr λ_ h=>h) (by decide) (by decide) _ _),((((H8.out.setBlk hty6 (.inr λ_ h=>h) (by decide) (by decide) _ _).setBlk (hty4.set _ _ _) (.inr λ_ h=>h) (by decide) (by decide) _ _).setBlk ((hty4.set _ _ _).set _ _ _) (.inr λ_ h=>h) (by decide) (by decide) _ _).setBlk (((hty4.set _ _ _).set _ _ _).set _ _ _) (.inr λ_ h=>h) (by decide) (by decide) _ _),(((((HVO.out.below BC47.out).setBlk hty6 (.inr λ_ h=>h) (by decide) (by decide) _ _).setBlk (hty4.set _ _ _) (.inr λ_ h=>h) (by decide) (by decide) _ _).setBlk ((hty4.set _ _ _).set _ _ _) (.inr λ_ h=>h) (by decide) (by decide) _ _).setBlk (((hty4.set _ _ _).set _ _ _).set _ _ _) (.inr λ_ h=>h) (by decide) (by decide) _ _)⟩,((((HBB.out.setCell (by simp;omega) _).setCell (by simp;omega) _).setCell (by simp;omega) _).setCell (by simp;omega) _)⟩
theorem buildI_all:
  Calls Tryz.prog 13 #[.agg (chkCells x A n c A' n' c' A'' n'' c'').toArray,.agg #[.string rn,.slice A1 n1 c1,.slice Ak nk ck,.slice A3 n3 c3],.agg #[.string on,.slice A2 n2 c2,.slice Al nl cl,.slice A4 n4 c4],.slice A5 n5 c5] w
   λe w'=>(∃v7 v8 v9,e=.returned (.tuple #[.agg #[v7,v8,v9],.int .i64 (buildS x cols ocols rows orows zs).1])/\OE w.heap.size w' v7 (buildS x cols ocols rows orows zs).2.rows/\OE w.heap.size w' v8 (buildS x cols ocols rows orows zs).2.other/\OE w.heap.size w' v9 (buildS x cols ocols rows orows zs).2.viol)/\Below w.heap.size w w':=by
 by_cases hE:allErr x cols ocols rows orows zs=0
 ·cases hu:usesO x.kind
  ·exact buildI_one w x A n c hn A' n' c' hn' A'' n'' c'' hq hw rn A1 n1 c1 cols hc Ak nk ck A3 n3 c3 rows hr on A2 n2 c2 ocols ho Al nl cl A4 n4 c4 orows hor A5 n5 c5 zs hz hb0 hb1 hb2 hb3 hE hu
  ·exact buildI_two w x A n c hn A' n' c' hn' A'' n'' c'' hq hw rn A1 n1 c1 cols hc Ak nk ck A3 n3 c3 rows hr on A2 n2 c2 ocols ho Al nl cl A4 n4 c4 orows hor A5 n5 c5 zs hz hb0 hb1 hb2 hb3 hE hu
 ·exact buildI_err w x A n c hn A' n' c' hn' A'' n'' c'' hq hw rn A1 n1 c1 cols hc Ak nk ck A3 n3 c3 rows hr on A2 n2 c2 ocols ho Al nl cl A4 n4 c4 orows hor A5 n5 c5 zs hz hb0 hb1 hb2 hb3 _ rfl hE
end
end Go.Proofs.YtggejcekmehocaaGreatDoor
