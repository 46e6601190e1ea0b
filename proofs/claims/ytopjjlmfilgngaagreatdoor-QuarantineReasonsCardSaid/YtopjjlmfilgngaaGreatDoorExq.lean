/-
  check.Explain for checks of every kind. (Printed by gen_exq.py.)
-/
import Derived.Test.YtopjjlmfilgngaaGreatDoorGbc
namespace Go.Proofs.YtopjjlmfilgngaaGreatDoor
set_option maxHeartbeats 4000000
set_option maxRecDepth 100000
open Go.RowKit Go.Maps
set_option linter.unusedSimpArgs false
set_option linter.unusedVariables false
attribute [local go_sem ↓] Go.wp_at_zero Go.wp_at_succ
def lS (c:Chk):List ByteArray:=if c.kind=4 then qX c.cond else c.cols
def ql (c:Chk)(a d:List Col)(b e:List Ent)(zs:List Zone)(row:List Val):Int×Rsn:=
 if gP c a d b e zs≠0 then(gP c a d b e zs,jT) else if cntF (jg c a d b e zs).2 row=0 then(13,jT)
 else(0,⟨c.name,gB a (lS c) row,if c.kind=0 then jh a (lS c) b row (gB a (lS c) row) else []⟩)
section
variable (w:World)(x:Chk)(A:Option Addr)(n c:Nat)(M:In w A n c x.cols)(A':Option Addr)(n' c':Nat)(N:In w A' n' c' x.ocols)(A'':Option Addr)(n'' c'':Nat)(B:In w A'' n'' c'' x.cond)(hw:Words w)(X:ByteArray)(r:Option Addr)(j c1:Nat)(cols:List Col)(L:In w r j c1 cols)(G:Option Addr)(U I:Nat)(A3:Option Addr)(n3 c3:Nat)(rows:List Ent)(R:In w A3 n3 c3 rows)(on:ByteArray)(A2:Option Addr)(n2 c2:Nat)(d:List Col)(O:In w A2 n2 c2 d)(H:Option Addr)(nl cl:Nat)(F:Option Addr)(n4 c4:Nat)(f:List Ent)(P:In w F n4 c4 f)(u:Option Addr)(n5 z:Nat)(zs:List Zone)(T:In w u n5 z zs)(Y:n<=4096)(aa:n'<=4096)(ab:j<=4096)(ac:n2<=4096)(C:Option Addr)(E D:Nat)(row:List Val)(Z:In w C E D row)
include w x A n c M A' n' c' N A'' n'' c'' B hw X r j c1 cols L G U I A3 n3 c3 rows R on A2 n2 c2 d O H nl cl F n4 c4 f P u n5 z zs T Y aa ab ac C E D row Z
theorem Ed (hE:gP x cols d rows f zs=0)(hC:¬cntF (jg x cols d rows f zs).2 row=0)(bH:n''<=4096):
  Calls Tryz.prog 53 #[.agg (fZ x A n c A' n' c' A'' n'' c'').toArray,.agg #[.string X,.slice r j c1,.slice G U I,.slice A3 n3 c3],.agg #[.string on,.slice A2 n2 c2,.slice H nl cl,.slice F n4 c4],.slice u n5 z,.slice C E D] w
   λe w'=>(∃v7 v8,e=.returned (.tuple #[.agg #[.string (ql x cols d rows f zs row).2.name,v7,v8],.int .i64 (ql x cols d rows f zs row).1])/\OL 36 w.heap.size (λ_=>False) [] w' v7 (ql x cols d rows f zs row).2.values/\OL 23 w.heap.size (λ_=>False) [36] w' v8 (ql x cols d rows f zs row).2.rows)/\Below w.heap.size w w':=by
 have bU:=Hm λW M N B hw L R O P T=>nS W x A n c M A' n' c' N A'' n'' c'' B hw X r j c1 cols L G U I A3 n3 c3 rows R on A2 n2 c2 d O H nl cl F n4 c4 f P u n5 z zs T Y aa ab ac;have HD:=Hm (show ql x cols d rows f zs row=if gP x cols d rows f zs≠0 then(gP x cols d rows f zs,jT) else if cntF (jg x cols d rows f zs).2 row=0 then(13,jT) else(0,⟨x.name,gB cols (lS x) row,if x.kind=0 then jh cols (lS x) rows row (gB cols (lS x) row) else []⟩) from rfl);obtain⟨NM,b3⟩: ∃l,lS x=l:=⟨_,rfl⟩;rw[b3]at HD;have cj:=Hm b3;clear b3;have co:=Hm (show(jg x cols d rows f zs).1=gP x cols d rows f zs from by rw[jg];split<;>simp_all);obtain⟨J,hJ⟩: ∃J,ql x cols d rows f zs row=J:=⟨_,rfl⟩;obtain⟨VL,b6⟩: ∃l,(jg x cols d rows f zs).2=l:=⟨_,rfl⟩;rw[hJ,b6]at HD;rw[b6]at bU hC;rw[hJ];clear hJ b6;obtain⟨_,cw,_⟩:=jX hE;obtain⟨cG,cR,cQ⟩:=gW cw;have ds:=Hm (jm cG cR);have dt:=Hm cQ;have HJ:Hl (J=(0,⟨x.name,gB cols NM row,if x.kind=0 then jh cols NM rows row (gB cols NM row) else []⟩)):=Hm (by rw[HD.o,if_neg (by rw[hE];simp),if_neg hC]);rw[hE]at co;clear hE cw cG cR cQ HD;simp only[fZ]at bU⊢;go_enter Tryz.func53,Tryz.ntmps53;have HN:=Hm M;clear M;have dl:=Hm N;clear N;have HQ:=Hm B;clear B;have HW:=Hm hw;clear hw;have HC:=Hm L;clear L;have HO:=Hm O;clear O;have HZ:=Hm T;clear T;have HR:=Hm R;clear R;have dr:=Hm P;clear P;have a6:=Hm Z;clear Z;go_wp2_with fail;obtain⟨W3,cy,cu,cC,o1⟩:=jN w x A n c A' n' c' A'' n'' c'' X r j c1 G U I A3 n3 c3 on A2 n2 c2 H nl cl F n4 c4;rw[<-cy];clear cy;have ar:=Hm cC;clear cC;obtain⟨W4,bG⟩: ∃W,W=W3.alloc (.cells #[.string ⟨#[]⟩,.slice none 0 0,.slice none 0 0] 78):=⟨_,rfl⟩;obtain⟨cD,dM,z0,z1,z2⟩:=vB (b:=w.heap.size+1+1+1) bG (by rw[cu.o]);have ag:Hl (iy W4 (w.heap.size+1+1+1) 78 3):=Hm (by rw[<-cu.o,bG];exact iy.made _ _ _ _ rfl);rw[<-bG];clear bG;have aq:=Hm cD;clear cD;have L4:=lt_of_cell z0;obtain⟨⟨LR,g0,g1,g2,g3,g4,g5,g6,g7,g8,g9,aD,aE,aF,aG⟩,⟨L2,r0,r1,r2,r3⟩,L3,s0,s1,s2,s3⟩:=o1.o _ aq.o;go_wp2_with fail;have aB:=Hm (fH ar.o aq.o);refine(bU.o _ (HN.o.below aB.o) (dl.o.below aB.o) (HQ.o.below aB.o) (HW.o.below aB.o) (HC.o.below aB.o) (HR.o.below aB.o) (HO.o.below aB.o) (dr.o.below aB.o) (HZ.o.below aB.o)).mono ?_;rintro e w4 ⟨⟨bv,rfl,bm⟩,bH⟩;have o6:=rE (lq g0 g1 g2 g3 g4 g5 g6 g7 g8 g9 aD aE aF aG) (rE (kJ r0 r1 r2 r3) (rE (kJ s0 s1 s2 s3) (Ir z0 z1 z2)));have ah:=Hm bH;clear bH;rw[co.o];obtain⟨Ab,cb,rfl,b8⟩:=sG bm;obtain⟨mb,cL⟩: ∃m,VL.length=m:=⟨_,rfl⟩;rw[cL]at b8⊢;clear bm cL;have dh:=Hm b8;clear b8;have cg:=Hm hC;obtain⟨CT,b2⟩: ∃q,cntF VL row=q:=⟨_,rfl⟩;rw[b2]at cg;have df:=Hm b2;clear hC;obtain⟨⟨LR,g0,g1,g2,g3,g4,g5,g6,g7,g8,g9,aD,aE,aF,aG⟩,⟨L2,r0,r1,r2,r3⟩,⟨L3,s0,s1,s2,s3⟩,L4,z0,z1,z2⟩:=o6.o _ ah.o;go_wp2_with fail;have dc:=Hm (fH (fH ar.o aq.o) ah.o);refine(Bu _ Ab mb cb VL dh.o C E D row (a6.o.below dc.o)).mono ?_;rintro e w8 ⟨rfl,aV⟩;have bd:=Hm aV;clear aV;rw[df.o];clear b2;have q1:(CT==0)=false:=by simpa using cg.o
 have cU:=Hm (fH ah.o bd.o);obtain⟨⟨LR,g0,g1,g2,g3,g4,g5,g6,g7,g8,g9,aD,aE,aF,aG⟩,⟨L2,r0,r1,r2,r3⟩,⟨L3,s0,s1,s2,s3⟩,L4,z0,z1,z2⟩:=o6.o _ cU.o;have G3:=Hm g3;go_upto_region 6 with (fail);go_cut [14] (λs wx=>s=.slice A n c/\wx=w8)
 case first=>
  have dN:=G3.o;go_wp2;go_meet
  case rel=>exact⟨rfl,rfl⟩
 obtain⟨rfl,dD⟩:=hcut;obtain rfl:=dD.symm;go_step;go_step;go_cut [14] (λs wx=> ∃(AN:Option Addr) (nN cN:Nat),s=.slice AN nN cN/\In wx AN nN cN NM/\nN<=4096/\Below w8.heap.size w8 wx)
 case first=>
  by_cases h4:x.kind=4
  ·have k4:(x.kind==4)=true:=by simpa using h4
   have cO:NM=qX x.cond:=by rw[<-cj.o,lS,if_pos h4]
   have cJ:(qX x.cond).length<=4096:=by have h1:=Kl x.cond;have h2:=HQ.o.len;omega
   go_wp2_with fail;have cV:=Hm (fH (fH (fH ar.o aq.o) ah.o) bd.o);refine(FM _ A'' n'' c'' x.cond (HQ.o.below cV.o) bH).mono ?_;rintro e dI ⟨⟨AN,cN,rfl,bj⟩,aU⟩;have dv:=Hm aU;have dy:=Hm (fH bd.o aU);clear aU;have dd:=Hm dv.o;have bK:=Hm bj;have dn:=Hm cJ;have bL:=Hm cO;have H4:=Hm h4;clear bj cJ cO h4;have cW:=Hm (fH ah.o dy.o);obtain⟨⟨LR,g0,g1,g2,g3,g4,g5,g6,g7,g8,g9,aD,aE,aF,aG⟩,⟨L2,r0,r1,r2,r3⟩,⟨L3,s0,s1,s2,s3⟩,L4,z0,z1,z2⟩:=o6.o _ cW.o;go_wp2;all_goals(try(exfalso;go_light;simp_all;done));rw[show Value.int .i64 4=Value.int .i64 x.kind from by rw[H4.o]];go_meet
   case rel=>exact⟨AN,_,cN,rfl,by rw[bL.o];exact bK.o,dn.o,dd.o⟩
  ·have k4:(x.kind==4)=false:=by simpa using h4
   have cX:=Hm (fH (fH (fH ar.o aq.o) ah.o) bd.o);have bK:=Hm (HN.o.below cX.o);have bL:Hl (NM=x.cols):=Hm (by rw[<-cj.o,lS,if_neg h4]);go_wp2;all_goals(try(exfalso;go_light;simp_all;done));go_meet
   case rel=>exact⟨A,n,c,rfl,by rw[bL.o];exact bK.o,Y,Below.refl _ _⟩
 obtain⟨AN,nN,cN,rfl,bj,cM,cE⟩:=hcut;have ap:=Hm (fH bd.o cE);clear cE;have bM:=Hm bj;clear bj;obtain⟨PV,cx⟩: ∃p,gB cols NM row=p:=⟨_,rfl⟩;have bz:=Hm λW h1 h2 h3=>sK W r j c1 cols h1 AN nN cN NM h2 C E D row h3 (by omega) cM;rw[cx]at bz HJ;clear cx;have cY:=Hm (fH ah.o ap.o);obtain⟨⟨LR,g0,g1,g2,g3,g4,g5,g6,g7,g8,g9,aD,aE,aF,aG⟩,⟨L2,r0,r1,r2,r3⟩,⟨L3,s0,s1,s2,s3⟩,L4,z0,z1,z2⟩:=o6.o _ cY.o;have bb:=Hm g0;have bc:=Hm r1;have ba:=Hm LR;have a9:=Hm L2;have bV:=Hm (show ¬w.heap.size=wc.heap.size from by have:=LR;(try simp at this);omega);have bW:=Hm (show ¬w.heap.size+1=wc.heap.size from by have:=L2;(try simp at this);omega);obtain⟨WA,rfl⟩: ∃W,W=wc:=⟨_,rfl⟩;have bC:=Hm (fH (fH (fH ar.o aq.o) ah.o) ap.o);go_upto_region 9 with (fail);go_cut [15] (λp wx=> ∃(gR:Nat) (A7:Option Addr) (m7 c7:Nat),p=.pointer (some ⟨gR,0,none⟩)/\WA.heap.size<=gR/\RsnAt wx gR x.name A7 m7 c7 (.slice none 0 0)/\OL 36 WA.heap.size (λ_=>False) [] wx (.slice A7 m7 c7) PV/\PV.length=m7/\Below WA.heap.size WA wx)
 case first=>
  have bs:=Hm (fH (fH (fH ar.o aq.o) ah.o) ap.o);go_region_held3 (λV=>V.cell? ⟨w.heap.size,0,none⟩=some (.string x.name)/\V.cell? ⟨w.heap.size+1,1,none⟩=some (.slice r j c1)) (first|exact⟨fO az.o ba.o bb.o,fO az.o a9.o bc.o⟩|exact⟨fO (fI (w:=w7)) (lt_of_cell (fO az.o ba.o bb.o)) (fO az.o ba.o bb.o),fO (fI (w:=w7)) (lt_of_cell (fO az.o a9.o bc.o)) (fO az.o a9.o bc.o)⟩|exact⟨g0,r1⟩|exact⟨fM (fM (fM (fO aR.o ba.o bb.o) (.inl bV.o)) (.inl bV.o)) (.inl bV.o),fM (fM (fM (fO aR.o a9.o bc.o) (.inl bW.o)) (.inl bW.o)) (.inl bW.o)⟩|exact⟨fO aR.o ba.o bb.o,fO aR.o a9.o bc.o⟩|go_keep) (first|(go_at_call 79;refine(bz.o _ (by exact(HC.o.below bs.o).below (Below.refl _ _).drew) (by exact bM.o.below (Below.refl _ _).drew) (by exact(a6.o.below bs.o).below (Below.refl _ _).drew)).mono ?_;rintro e w7 ⟨⟨A7,m7,c7,rfl,bl,bk,_⟩,cB⟩;have a3:=Hm bl;have aZ:=Hm bk;have az:=Hm (fP cB);clear bl bk cB)|(go_at_call 79;refine(bz.o _ (by exact(HC.o.below bs.o).below (fH fI (Below.refl _ _).drew)) (by exact bM.o.below (fH fI (Below.refl _ _).drew)) (by exact(a6.o.below bs.o).below (fH fI (Below.refl _ _).drew))).mono ?_;rintro e w8 ⟨⟨A7,m7,c7,rfl,bl,bk,_⟩,aV⟩;have a3:=Hm bl;have aZ:=Hm bk;have aR:=Hm (fH fI (fP aV));have aY:=Hm (fP aV);have u0:=fO aY.o (b:=WA.heap.size) (o:=0) (v:=.string ⟨#[]⟩) (by simp) (by simp[go_sem]);have u1:=fO aY.o (b:=WA.heap.size) (o:=1) (v:=.slice none 0 0) (by simp) (by simp[go_sem]);have u2:=fO aY.o (b:=WA.heap.size) (o:=2) (v:=.slice none 0 0) (by simp) (by simp[go_sem]);have aS:=Hm ((iy.made WA #[.string ⟨#[]⟩,.slice none 0 0,.slice none 0 0] 78 3 rfl).below aY.o);have t0:=aS.o.frozen 0;have t1:=aS.o.frozen 1;have t2:=aS.o.frozen 2;clear bl bk aV))
  ·obtain⟨W9,au⟩: ∃W,W=w7.alloc (.cells #[.string x.name,.slice A7 m7 c7,.slice none 0 0] 78):=⟨_,rfl⟩;obtain⟨gR,aQ⟩: ∃g,g=w7.heap.size:=⟨_,rfl⟩;have bn:=a3.o.rebase (B0:=WA.heap.size) (by simp);have aC:Hl (RsnAt W9 gR x.name A7 m7 c7 (.slice none 0 0)):=Hm (by
    rw[au,aQ];exact⟨by simp[go_sem],by simp[go_sem],by simp[go_sem],frozen_of_row _ _ 2 _ _ (heap_alloc_new _ _),⟨_,heap_alloc_new _ _⟩⟩)
   have an:Hl (OL 36 WA.heap.size (λ_=>False) [] W9 (.slice A7 m7 c7) PV):=Hm (by rw[au];exact bn.below fI);have ai:Hl (Below WA.heap.size WA W9):=Hm (by rw[au];exact az.o.alloc az.o.size _);have aH:=Hm (show WA.heap.size<=gR by have:=az.o.size;omega);clear bn az a3;rw[<-au,<-aQ];clear aQ au;go_wp2_with fail;go_meet
   case rel=>exact⟨gR,A7,m7,c7,rfl,aH.o,aC.o,an.o,aZ.o,ai.o⟩
  ·obtain⟨W9,au⟩: ∃W,W=(((w8.setCell ⟨WA.heap.size,0,none⟩ (.string x.name)).setCell ⟨WA.heap.size,1,none⟩ (.slice A7 m7 c7)).setCell ⟨WA.heap.size,2,none⟩ (.slice none 0 0)):=⟨_,rfl⟩;obtain⟨gR,aQ⟩: ∃g,g=WA.heap.size:=⟨_,rfl⟩;have bn:=a3.o.rebase (B0:=WA.heap.size) (by simp);have br:=aS.o.ty;have aC:Hl (RsnAt W9 gR x.name A7 m7 c7 (.slice none 0 0)):=Hm (by
    rw[au,aQ];have fz:=pY (pY (pY aS.o.frozen WA.heap.size 0 (.string x.name)) WA.heap.size 1 (.slice A7 m7 c7)) WA.heap.size 2 (.slice none 0 0);exact⟨fM (fM (iC u0) (.inr (by omega))) (.inr (by omega)),fM (iC (fM u1 (.inr (by omega)))) (.inr (by omega)),iC (fM (fM u2 (.inr (by omega))) (.inr (by omega))),fz 2,((br.set _ _ _).set _ _ _).set _ _ _⟩)
   have an:Hl (OL 36 WA.heap.size (λ_=>False) [] W9 (.slice A7 m7 c7) PV):=Hm (by
    rw[au];exact((bn.setBlk br (.inr λ_ h=>h) (by decide) (by simp) _ _).setBlk (br.set _ _ _) (.inr λ_ h=>h) (by decide) (by simp) _ _).setBlk ((br.set _ _ _).set _ _ _) (.inr λ_ h=>h) (by decide) (by simp) _ _)
   have ai:Hl (Below WA.heap.size WA W9):=Hm (by
    rw[au];exact((aR.o.setCell (Nat.le_refl _) _).setCell (Nat.le_refl _) _).setCell (Nat.le_refl _) _)
   have aH:=Hm (show WA.heap.size<=gR by omega);clear bn br u0 u1 u2 t0 t1 t2 aS aY aR a3;rw[<-au,<-aQ];clear aQ au;go_wp2_with fail;go_meet
   case rel=>exact⟨gR,A7,m7,c7,rfl,aH.o,aC.o,an.o,aZ.o,ai.o⟩
 case rest=>
  obtain⟨gR,A7,m7,c7,rfl,cH,bp,bo,cK,hb⟩:=hcut;have aH:=Hm cH;have aC:=Hm bp;have an:=Hm bo;have aZ:=Hm cK;have ai:=Hm hb;clear cH bp bo cK hb;have cZ:=Hm (fH (fH (fH ar.o aq.o) ah.o) ap.o);have BR:=Hm (HR.o.below cZ.o);have ch:=Hm HR.o.len;have dO:=HR.o.le;have dR:n3<=4096:=by rw[<-ch.o];exact ds.o.1
  have ci:=Hm (show ¬w.heap.size+1+1+1=gR from by have h4:w.heap.size+1+1+1<WA.heap.size:=L4;have:=aH.o;omega);by_cases h0:x.kind=0;rotate_left
  ·have k0:(x.kind != 0)=true:=by simpa using h0
   have di:Hl (J=(0,⟨x.name,PV,[]⟩)):=Hm (by rw[HJ.o,if_neg h0]);have cF:=ai.o;have ct:=Hm cF;clear cF;have aw:=Hm (fH (fH ah.o ap.o) ct.o);have y0:=(ag.o.below aw.o).frozen 0;have y1:=(ag.o.below aw.o).frozen 1;have y2:=(ag.o.below aw.o).frozen 2;have dm:=ci.o;have c0:=aC.o.c0;have dz:=aC.o.c1;have dA:=aC.o.c2;obtain⟨⟨LR,g0,g1,g2,g3,g4,g5,g6,g7,g8,g9,aD,aE,aF,aG⟩,⟨L2,r0,r1,r2,r3⟩,⟨L3,s0,s1,s2,s3⟩,L4,z0,z1,z2⟩:=o6.o _ aw.o;have q5:=g2;have bI:=Hm (fH (fH (fH (fH ar.o aq.o) ah.o) ap.o) ct.o);have dq:Hl (OL (α:=List Val) 23 WA.heap.size (λ_=>False) [36] wc (.slice none 0 0) []):=Hm (OL.nil ai.o.size);go_wp2;all_goals(try(exfalso;go_light;simp_all;done));obtain rfl:=di.o;refine bodyPost_ret (v:=.tuple #[.agg #[.string x.name,.slice A7 m7 c7,.slice none 0 0],.int .i64 0]) (gJ (cs:=[.string x.name,.slice A7 m7 c7,.slice none 0 0]) rfl _ _ _ _ _ rfl rfl (iJ z0 z1 z2) Tryz.underlying78 rfl (by kernel_rfl)) rfl ⟨⟨_,_,rfl,((((an.o.setBlk (ag.o.below aw.o).ty (.inr λ_ h=>h) (by decide) (by decide) _ _).setBlk ((ag.o.below aw.o).ty.set _ _ _) (.inr λ_ h=>h) (by decide) (by decide) _ _).setBlk (((ag.o.below aw.o).ty.set _ _ _).set _ _ _) (.inr λ_ h=>h) (by decide) (by decide) _ _)).rebase bC.o.size,((((dq.o.setBlk (ag.o.below aw.o).ty (.inr λ_ h=>h) (by decide) (by decide) _ _).setBlk ((ag.o.below aw.o).ty.set _ _ _) (.inr λ_ h=>h) (by decide) (by decide) _ _).setBlk (((ag.o.below aw.o).ty.set _ _ _).set _ _ _) (.inr λ_ h=>h) (by decide) (by decide) _ _)).rebase bC.o.size⟩,(((bI.o.setCell (by simp;omega) _).setCell (by simp;omega) _).setCell (by simp;omega) _)⟩
  have k0:(x.kind != 0)=false:=by simpa using h0
  have HJ:Hl (J=(0,⟨x.name,PV,jh cols NM rows row PV⟩)):=Hm (by rw[HJ.o,if_pos h0]);clear h0;have q2:=fO ai.o LR g2;have q3:=fO ai.o L2 r3;have aJ:Hl (OL (α:=List Val) 23 WA.heap.size (λ_=>False) [36] wc (.slice none 0 0) []):=Hm (OL.nil ai.o.size);clear bz;go_wp2;go_loopg [58] n3 (λleft i wr=> ∃(k:Nat) (v:Value) (ys:List (List Val)),k+left=n3/\i=.int .i64 k/\ys=jh cols NM (rows.take k) row PV/\ys.length<=k/\RsnAt wr gR x.name A7 m7 c7 v/\OL 23 WA.heap.size (λ_=>False) [36] wr v ys/\OL 36 WA.heap.size (λ_=>False) [] wr (.slice A7 m7 c7) PV/\Below WA.heap.size WA wr)
  case atStart=>exact⟨0,_,[],by omega,rfl,by simp[jh],by simp,aC.o,aJ.o,an.o,ai.o⟩
  case round=>
   obtain⟨k,v,ys,hk,rfl,cT,dS,bp,bm,bo,hb⟩:=hrel;have cq:=Hm cT;have aT:=Hm bp;have bx:=Hm bm;have bP:=Hm bo;clear cT bp bm bo aC an ai aJ q2 q3;have be:=Hm hb;clear hb;have bw:=Hm be.o;have dk:=Hm aT.o.lt;by_cases dB:k<n3
   ·obtain⟨b,off,y,rfl,b0,HX,Ax,An,Ac,f0,f1,e2,e3⟩:=BR.o.ent dB;have dP:b<wr.heap.size:=Nat.lt_of_lt_of_le b0 bw.o.size;have e0:=fO bw.o b0 f0;have e1:=fO bw.o b0 f1;have k0:(0:Int)<=(k:Int):=by omega
    have k1:(k:Int)<(n3:Int):=by omega
    have cm:=Hm (e2.below bw.o);have bS:=Hm (wu cols NM (rows.take k) y row PV);rw[<-ic HX.o,<-cq.o]at bS;have cv:An<=1048576:=by have h1:=oD (dt.o y (gH HX.o));have h2:=e2.len;have h3:=HC.o.len;omega
    clear e2 f0 f1;have c5:=Hm (fH (fH ah.o ap.o) be.o);obtain⟨⟨LR,g0,g1,g2,g3,g4,g5,g6,g7,g8,g9,aD,aE,aF,aG⟩,⟨L2,r0,r1,r2,r3⟩,⟨L3,s0,s1,s2,s3⟩,L4,z0,z1,z2⟩:=o6.o _ c5.o;go_upto_region 15 with (fail);obtain⟨bE,bF⟩: ∃W,W=wr.alloc (.cells #[.slice Ax An Ac,.int .i64 y.count] 50):=⟨_,rfl⟩;obtain⟨b7,dL,x0,x1⟩:=wX bF rfl;have dx:Hl (iy bE (wr.heap.size) 50 2):=Hm (by rw[bF];exact iy.made _ _ _ _ rfl);rw[<-bF];clear bF;have bD:=Hm b7;have bf:=Hm (fH be.o b7);clear b7;have cr:=lt_of_cell x0;have bR:=Hm (aT.o.below bD.o);have dp:=Hm (bx.o.below bD.o);have ck:=Hm (bP.o.below bD.o);have bA:=Hm (cm.o.below bD.o);have dj:=Hm bf.o;have d1:=bR.o.c1;have X0:=Hm x0;have D1:=Hm d1;have DL:=Hm bR.o.lt;have da:=Hm (fH (fH ah.o ap.o) bf.o);obtain⟨⟨LR,g0,g1,g2,g3,g4,g5,g6,g7,g8,g9,aD,aE,aF,aG⟩,⟨L2,r0,r1,r2,r3⟩,⟨L3,s0,s1,s2,s3⟩,L4,z0,z1,z2⟩:=o6.o _ da.o;have bZ:=Hm r1;have bX:=Hm L2;have a8:=Hm cr;have dw:=Hm dx.o.ty;have dK:=Hm (show wr.heap.size<bE.heap.size from cr);have bu:=Hm λW h1 h2=>lw W Ax C An E Ac D y.row row h1 h2;have bO:=Hm λW h1 h2 h3=>sK W r j c1 cols h1 AN nN cN NM h2 Ax An Ac y.row h3 (by omega) cM;obtain⟨PY,b4⟩: ∃q,gB cols NM y.row=q:=⟨_,rfl⟩;obtain⟨Q,hQ⟩: ∃q,gq y.row row=q:=⟨_,rfl⟩;obtain⟨Q2,b5⟩: ∃q,gq PY PV=q:=⟨_,rfl⟩;have bJ:=Hm λW u m5 z h1 h2=>lw W u A7 m5 m7 z c7 PY PV h1 h2;have bT:Hl (jh cols NM (rows.take (k+1)) row PV=ys++(if (!(Q==0)&&(Q2==0))=true then [y.row] else [])):=Hm (by
     rw[bS.o,b4,oV,oV,hQ,b5])
    rw[hQ]at bu;rw[b4]at bO;rw[b5]at bJ;clear b4 hQ b5 bS aT bx bP cm e0 e1;have dC:¬gR=wr.heap.size:=by have h1:=dk.o;omega
    obtain⟨CB,b1⟩: ∃b,(!(Q==0)&&(Q2==0))=b:=⟨_,rfl⟩;rw[b1]at bT;have cf:=Hm b1;clear b1;go_cut [78] (λt wx=>t=.bool CB/\Below bE.heap.size bE wx)
    case first=>
     have dE:True:=trivial;by_cases B:Q=0
     ·subst B;obtain rfl:CB=false:=by rw[<-cf.o];rfl
      refine wp_region_held_drew (S:=λV=>V.cell? ⟨wr.heap.size,0,none⟩=some (.slice Ax An Ac)) (by kernel_rfl) (by exact x0) (λhHeld=>?_);refine wpAnyH_take (i:=0) (v:=?_) rfl (by kernel_rfl) (by kernel_rfl) (by kernel_rfl) (λ_ _ _ h=>h) (Or.inl ⟨by rfl,?_⟩) hHeld ?_;rotate_left
      ·intro w af
       (try dsimp only at af);go_simp
       (try with_reducible rfl)
      (try simp only[Act.put,lL]);refine wpAnyH_take (i:=1) (v:=?_) rfl (by kernel_rfl) (by kernel_rfl) (by kernel_rfl) (λ_ _ _ h=>h) (Or.inl ⟨by rfl,?_⟩) hHeld ?_;rotate_left
      ·intro w af
       (try dsimp only at af);go_simp
       (try with_reducible rfl)
      (try simp only[Act.put,lL]);refine wpAnyH_take (i:=2) (v:=?_) rfl (by kernel_rfl) (by kernel_rfl) (by kernel_rfl) (λ_ _ _ h=>h) (Or.inl ⟨by rfl,?_⟩) hHeld ?_;rotate_left
      ·intro w af
       (try dsimp only at af);go_simp
       (try with_reducible rfl)
      (try simp only[Act.put,lL]);refine wpAnyH_ready (rs:=[3]) (by kernel_rfl) (by simp) ?_;refine AllReadyH.cons rfl (λK hK=>?_) AllReadyH.nil;go_simp;go_at_call 31;have db:=Hm (fH (fH (fH (fH ar.o aq.o) ah.o) ap.o) bf.o);refine(bu.o _ (by exact bA.o.below (Below.refl _ _).drew) (by exact(a6.o.below db.o).below (Below.refl _ _).drew)).mono ?_;rintro e dH ⟨rfl,bh⟩;have ay:=Hm (fP bh);clear bh;go_wp2_with fail;refine hK.out _ _ ?_ (λad=>?_)
      ·exact fO ay.o a8.o X0.o
      clear hK K hHeld;have hHeld:=ad;clear ad
      (try simp only[Act.put,lL]);refine wpAnyH_take (i:=4) (v:=?_) rfl (by kernel_rfl) (by kernel_rfl) (by kernel_rfl) (λ_ _ _ h=>h) (Or.inl ⟨by rfl,?_⟩) hHeld ?_;rotate_left
      ·intro w af
       (try dsimp only at af);go_simp
       (try with_reducible rfl)
      (try simp only[Act.put,lL]);refine wpAnyH_take (i:=5) (v:=?_) rfl (by kernel_rfl) (by kernel_rfl) (by kernel_rfl) (λ_ _ _ h=>h) (Or.inl ⟨by rfl,?_⟩) hHeld ?_;rotate_left
      ·intro w af
       (try dsimp only at af);go_simp
       (try with_reducible rfl)
      (try simp only[Act.put,lL]);refine wpAnyH_take (i:=6) (v:=undef) rfl (by kernel_rfl) (by kernel_rfl) (by kernel_rfl) (λ_ _ _ h=>h) (Or.inr ⟨by rfl,rfl⟩) hHeld ?_
      (try simp only[Act.put,lL]);refine wpAnyH_take (i:=7) (v:=undef) rfl (by kernel_rfl) (by kernel_rfl) (by kernel_rfl) (λ_ _ _ h=>h) (Or.inr ⟨by rfl,rfl⟩) hHeld ?_
      (try simp only[Act.put,lL]);refine wpAnyH_take (i:=8) (v:=undef) rfl (by kernel_rfl) (by kernel_rfl) (by kernel_rfl) (λ_ _ _ h=>h) (Or.inr ⟨by rfl,rfl⟩) hHeld ?_
      (try simp only[Act.put,lL]);refine wpAnyH_take (i:=9) (v:=undef) rfl (by kernel_rfl) (by kernel_rfl) (by kernel_rfl) (λ_ _ _ h=>h) (Or.inr ⟨by rfl,rfl⟩) hHeld ?_
      (try simp only[Act.put,lL]);refine wpAnyH_take (i:=10) (v:=undef) rfl (by kernel_rfl) (by kernel_rfl) (by kernel_rfl) (λ_ _ _ h=>h) (Or.inr ⟨by rfl,rfl⟩) hHeld ?_
      (try simp only[Act.put,lL]);refine wpAnyH_take (i:=11) (v:=undef) rfl (by kernel_rfl) (by kernel_rfl) (by kernel_rfl) (λ_ _ _ h=>h) (Or.inr ⟨by rfl,rfl⟩) hHeld ?_
      (try simp only[Act.put,lL]);refine wpAnyH_take (i:=12) (v:=undef) rfl (by kernel_rfl) (by kernel_rfl) (by kernel_rfl) (λ_ _ _ h=>h) (Or.inr ⟨by rfl,rfl⟩) hHeld ?_
      (try simp only[Act.put,lL]);refine wpAnyH_take (i:=13) (v:=undef) rfl (by kernel_rfl) (by kernel_rfl) (by kernel_rfl) (λ_ _ _ h=>h) (Or.inr ⟨by rfl,rfl⟩) hHeld ?_
      (try simp only[Act.put,lL]);refine wpAnyH_take (i:=14) (v:=undef) rfl (by kernel_rfl) (by kernel_rfl) (by kernel_rfl) (λ_ _ _ h=>h) (Or.inr ⟨by rfl,rfl⟩) hHeld ?_
      (try simp only[Act.put,lL]);refine wpAnyH_take (i:=15) (v:=undef) rfl (by kernel_rfl) (by kernel_rfl) (by kernel_rfl) (λ_ _ _ h=>h) (Or.inr ⟨by rfl,rfl⟩) hHeld ?_
      (try simp only[Act.put,lL]);refine wpAnyH_take (i:=16) (v:=?_) rfl (by kernel_rfl) (by kernel_rfl) (by kernel_rfl) (λ_ _ _ h=>h) (Or.inl ⟨by rfl,?_⟩) hHeld ?_;rotate_left
      ·intro w af
       (try dsimp only at af);go_simp
       (try with_reducible rfl)
      (try simp only[Act.put,lL]);refine wpAnyH_done (by kernel_rfl) ?_ _;all_goals
       go_wp2_with fail;go_meet
       case rel=>exact⟨rfl,ay.o⟩
     ·have q0:(Q != 0)=true:=by simpa using B
      have de:Hl (CB=(Q2==0)):=Hm (by rw[<-cf.o];simp[B]);have ce:=Hm (fH (fH (fH (fH ar.o aq.o) ah.o) ap.o) bf.o);go_region_held3 (λV=>V.cell? ⟨wr.heap.size,0,none⟩=some (.slice Ax An Ac)/\V.cell? ⟨w.heap.size+1,1,none⟩=some (.slice r j c1)/\V.cell? ⟨gR,1,none⟩=some (.slice A7 m7 c7))
       (first|exact⟨fO bt.o a8.o X0.o,fO bt.o bX.o bZ.o,fO bt.o DL.o D1.o⟩|exact⟨fO aX.o a8.o X0.o,fO aX.o bX.o bZ.o,fO aX.o DL.o D1.o⟩|exact⟨fO ay.o a8.o X0.o,fO ay.o bX.o bZ.o,fO ay.o DL.o D1.o⟩|exact⟨x0,r1,d1⟩|go_keep)
       (first
        |(clear dE;go_at_call 31;refine(bu.o _ (by exact bA.o.below (Below.refl _ _).drew) (by exact(a6.o.below ce.o).below (Below.refl _ _).drew)).mono ?_;rintro e dH ⟨rfl,bh⟩;have ay:=Hm (fP bh);clear bh;have dF:True:=trivial)
        |(clear dF;go_at_call 79;refine(bO.o _ (by exact(HC.o.below ce.o).below ay.o) (by exact(bM.o.below bf.o).below ay.o) (by exact bA.o.below ay.o)).mono ?_;rintro e dI ⟨⟨u,m5,z,rfl,cP,cI,_⟩,aU⟩;have dg:=Hm (jB cP cI);have aX:=Hm (fH ay.o aU);clear cP cI aU;have dG:True:=trivial)
        |(clear dG;go_at_call 31;refine(bJ.o _ u m5 z (by exact dg.o) (by exact jB (ck.o.below aX.o) aZ.o)).mono ?_;rintro e dU ⟨rfl,cz⟩;have bt:=Hm (fH aX.o cz);clear cz;have dT:True:=trivial))
      obtain rfl:=de.o;go_wp2_with fail;go_meet
      case rel=>exact⟨rfl,bt.o⟩
    case rest=>
     obtain⟨rfl,cA⟩:=hcut;have aO:=Hm cA;have a7:=Hm (bR.o.below aO.o);have bN:=Hm (dp.o.below aO.o);have bQ:=Hm (ck.o.below aO.o);have aI:=Hm (fH dj.o aO.o);have cn:=Hm (bA.o.below aO.o);clear cA bu bJ bO x0 x1 d1;cases CB
     ·have a0:Hl (ys=jh cols NM (rows.take (k+1)) row PV):=Hm (by rw[bT.o];simp);go_wp2;go_roundg (gk-1)
      case measure=>omega
      case rel=>exact⟨k+1,v,ys,by omega,by go_num,a0.o,by omega,a7.o,bN.o,bQ.o,aI.o⟩
     ·have a0:Hl (ys++[y.row]=jh cols NM (rows.take (k+1)) row PV):=Hm (by rw[bT.o];simp);have cp:=Hm (show WA.heap.size<=wc.heap.size from aI.o.size);have ak:=Hm (fO aO.o a8.o X0.o);have ao:=Hm (lt_of_cell ak.o);have bY:Hl (iF wc 50 wr.heap.size):=Hm (dw.o.below aO.o);have b9:ys.length+1<=maxLen:=by simp only[maxLen];omega
      have ca:(ys.length+1)*24<=140737488355328:=by omega
      have c2:=a7.o.c2;have dQ:=a7.o.lt;have cd:¬wr.heap.size=gR:=λe=>dC e.symm;go_upto_region 16 with (fail);refine wp_region_held_drew (S:=λV=>V.cell? ⟨wr.heap.size,0,none⟩=some (.slice Ax An Ac)) (by kernel_rfl) (by exact ak.o) (λhHeld=>?_);refine wpAnyH_take (i:=0) (v:=?_) rfl (by kernel_rfl) (by kernel_rfl) (by kernel_rfl) (λ_ _ _ h=>h) (Or.inl ⟨by rfl,?_⟩) hHeld ?_;rotate_left
      ·intro w af
       (try dsimp only at af);go_simp
       (try with_reducible rfl)
      (try simp only[Act.put,lL]);refine wpAnyH_take (i:=2) (v:=?_) rfl (by kernel_rfl) (by kernel_rfl) (by kernel_rfl) (λ_ _ _ h=>h) (Or.inl ⟨by rfl,?_⟩) hHeld ?_;rotate_left
      ·intro w af
       (try dsimp only at af);go_simp
       (try with_reducible rfl)
      (try simp only[Act.put,lL]);refine wpAnyH_take (i:=3) (v:=?_) rfl (by kernel_rfl) (by kernel_rfl) (by kernel_rfl) (λ_ _ _ h=>h) (Or.inl ⟨by rfl,?_⟩) hHeld ?_;rotate_left
      ·intro w af
       (try dsimp only at af);go_simp
       (try with_reducible rfl)
      (try simp only[Act.put,lL]);refine wpAnyH_ready (rs:=[1,4]) (by kernel_rfl) (by simp) ?_;refine AllReadyH.cons rfl (λK hK=>?_) (AllReadyH.cons rfl (λK hK=>?_) AllReadyH.nil)
      ·go_simp;refine hK.out _ _ ?_ (λad=>?_)
       ·exact ak.o
       clear hK K hHeld;have hHeld:=ad;clear ad
       (try simp only[Act.put,lL]);refine wpAnyH_ready (rs:=[4]) (by kernel_rfl) (by simp) ?_;refine AllReadyH.cons rfl (λK hK=>?_) AllReadyH.nil;go_simp;go_at_call 37;refine(uB _ Ax An Ac y.row (by exact cn.o.below (Below.refl _ _).drew) cv).mono ?_;rintro e w6 ⟨⟨A6,c6,rfl,bq⟩,bi⟩;have ae:=Hm (fP bi);have bB:=Hm (bq.mono λk hk=>show BS WA.heap.size (λ_=>False) [36] w6 k from .inr ⟨Nat.le_trans cp.o hk.1,_,by simp,hk.2⟩);have am:=Hm (bN.o.below ae.o);have aA:=Hm (a7.o.below ae.o);have aP:=Hm (bQ.o.below ae.o);clear bq bi;go_wp2_with fail;refine hK.out _ _ ?_ (λad=>?_)
       ·exact fO ae.o ao.o ak.o
       clear hK K hHeld;have hHeld:=ad;clear ad
       (try simp only[Act.put,lL]);refine wpAnyH_ready (rs:=[5]) (by kernel_rfl) (by simp) ?_;refine AllReadyH.cons rfl (λK hK=>?_) AllReadyH.nil;go_simp;refine hK.out _ _ ?_ (λad=>?_)
       ·exact fO (fH ae.o fI) ao.o ak.o
       clear hK K hHeld;have hHeld:=ad;clear ad
       (try simp only[Act.put,lL]);refine wpAnyH_ready (rs:=[6]) (by kernel_rfl) (by simp) ?_;refine AllReadyH.cons rfl (λK hK=>?_) AllReadyH.nil;refine pK _ rfl _ _ _ rfl uE (by decide) w6 _ rfl am.o (by simp[Act.eval,Act.put]) (by simp[Act.eval,Act.put]) y.row ⟨_,_,_,rfl,bB.o⟩ b9 ca ?_;intro v9 w9 av aL al bg;obtain⟨A9,c9,aN⟩:=av.form;obtain⟨m9,aM⟩: ∃m,(ys++[y.row]).length=m:=⟨_,rfl⟩;rw[aM]at aN;subst aN;clear aM;have aJ:=Hm av;have a1:Hl (some gR≠v.ownBlock):=Hm (λe=>iF.ne aA.o.ty (am.o.ty e.symm).2 (by decide) rfl);have aj:=Hm (aA.o.grown al a1.o);have an:=Hm (aP.o.grown al λk e=>⟨λe2=>iF.ne (am.o.ty e).2 (aP.o.ty e2).2 (by decide) rfl,λhb=>by
        rcases hb with ⟨h,_⟩|⟨_,t,ht,_⟩
        ·exact h
        ·cases ht⟩)
       have aK:=Hm ((World.cell?_of_block (a:=⟨wr.heap.size,0,none⟩) (al.block wr.heap.size (lt_of_cell (fO ae.o ao.o ak.o)) (λe=>iF.ne (bY.o.below ae.o) (am.o.ty e.symm).2 (by decide) rfl))).trans (fO ae.o ao.o ak.o));have ai:=Hm (aI.o.trans ((ae.o.mono aI.o.size).trans aL));have j2:=aj.o.c2;have jf:=aj.o.fz;clear av aL al bg;refine hK.out _ _ ?_ (λad=>?_)
       ·exact aK.o
       clear hK K hHeld;have hHeld:=ad;clear ad
       (try simp only[Act.put,lL]);refine wpAnyH_take (i:=7) (v:=?_) rfl (by kernel_rfl) (by kernel_rfl) (by kernel_rfl) (λ_ _ _ h=>h) (Or.inl ⟨by rfl,?_⟩) hHeld ?_;rotate_left
       ·intro w af
        (try dsimp only at af);go_simp
        (try with_reducible rfl)
       (try simp only[Act.put,lL]);refine wpAnyH_ready (rs:=[8]) (by kernel_rfl) (by simp) ?_;refine AllReadyH.cons rfl (λK hK=>?_) AllReadyH.nil;go_simp;refine hK.out _ _ ?_ (λad=>?_)
       ·exact fM aK.o (.inl cd)
       clear hK K hHeld;have hHeld:=ad;clear ad
       (try simp only[Act.put,lL]);refine wpAnyH_done (by kernel_rfl) ?_ _;have a2:=Hm (aJ.o.setBlk aj.o.ty (.inr λ_ h=>h) (by decide) (by decide) 2 (.slice A9 m9 c9));have a4:=Hm (an.o.setBlk aj.o.ty (.inr λ_ h=>h) (by decide) (by decide) 2 (.slice A9 m9 c9));have a5:=Hm (aj.o.set2 (.slice A9 m9 c9));have aW:=Hm (ai.o.setCell (p:=⟨gR,2,none⟩) aH.o (.slice A9 m9 c9));go_wp2;go_roundg (gk-1)
       case measure=>omega
       case rel=>exact⟨k+1,_,ys++[y.row],by omega,by go_num,a0.o,by simp;omega,a5.o,a2.o,a4.o,aW.o⟩
      ·go_simp;go_at_call 37;refine(uB _ Ax An Ac y.row (by exact cn.o.below (Below.refl _ _).drew) cv).mono ?_;rintro e w6 ⟨⟨A6,c6,rfl,bq⟩,bi⟩;have ae:=Hm (fP bi);have bB:=Hm (bq.mono λk hk=>show BS WA.heap.size (λ_=>False) [36] w6 k from .inr ⟨Nat.le_trans cp.o hk.1,_,by simp,hk.2⟩);have am:=Hm (bN.o.below ae.o);have aA:=Hm (a7.o.below ae.o);have aP:=Hm (bQ.o.below ae.o);have j2:=aA.o.c2;clear bq bi;go_wp2_with fail;refine hK.out _ _ ?_ (λad=>?_)
       ·exact fO ae.o ao.o ak.o
       clear hK K hHeld;have hHeld:=ad;clear ad
       (try simp only[Act.put,lL]);refine wpAnyH_ready (rs:=[1,5]) (by kernel_rfl) (by simp) ?_;refine AllReadyH.cons rfl (λK hK=>?_) (AllReadyH.cons rfl (λK hK=>?_) AllReadyH.nil)
       ·go_simp;refine hK.out _ _ ?_ (λad=>?_)
        ·exact fO ae.o ao.o ak.o
        clear hK K hHeld;have hHeld:=ad;clear ad
        (try simp only[Act.put,lL]);refine wpAnyH_ready (rs:=[5]) (by kernel_rfl) (by simp) ?_;refine AllReadyH.cons rfl (λK hK=>?_) AllReadyH.nil;go_simp;refine hK.out _ _ ?_ (λad=>?_)
        ·exact fO (fH ae.o fI) ao.o ak.o
        clear hK K hHeld;have hHeld:=ad;clear ad
        (try simp only[Act.put,lL]);refine wpAnyH_ready (rs:=[6]) (by kernel_rfl) (by simp) ?_;refine AllReadyH.cons rfl (λK hK=>?_) AllReadyH.nil;refine pK _ rfl _ _ _ rfl uE (by decide) w6 _ rfl am.o (by simp[Act.eval,Act.put]) (by simp[Act.eval,Act.put]) y.row ⟨_,_,_,rfl,bB.o⟩ b9 ca ?_;intro v9 w9 av aL al bg;obtain⟨A9,c9,aN⟩:=av.form;obtain⟨m9,aM⟩: ∃m,(ys++[y.row]).length=m:=⟨_,rfl⟩;rw[aM]at aN;subst aN;clear aM;have aJ:=Hm av;have a1:Hl (some gR≠v.ownBlock):=Hm (λe=>iF.ne aA.o.ty (am.o.ty e.symm).2 (by decide) rfl);have aj:=Hm (aA.o.grown al a1.o);have an:=Hm (aP.o.grown al λk e=>⟨λe2=>iF.ne (am.o.ty e).2 (aP.o.ty e2).2 (by decide) rfl,λhb=>by
         rcases hb with ⟨h,_⟩|⟨_,t,ht,_⟩
         ·exact h
         ·cases ht⟩)
        have aK:=Hm ((World.cell?_of_block (a:=⟨wr.heap.size,0,none⟩) (al.block wr.heap.size (lt_of_cell (fO ae.o ao.o ak.o)) (λe=>iF.ne (bY.o.below ae.o) (am.o.ty e.symm).2 (by decide) rfl))).trans (fO ae.o ao.o ak.o));have ai:=Hm (aI.o.trans ((ae.o.mono aI.o.size).trans aL));have j2:=aj.o.c2;have jf:=aj.o.fz;clear av aL al bg;refine hK.out _ _ ?_ (λad=>?_)
        ·exact aK.o
        clear hK K hHeld;have hHeld:=ad;clear ad
        (try simp only[Act.put,lL]);refine wpAnyH_take (i:=7) (v:=?_) rfl (by kernel_rfl) (by kernel_rfl) (by kernel_rfl) (λ_ _ _ h=>h) (Or.inl ⟨by rfl,?_⟩) hHeld ?_;rotate_left
        ·intro w af
         (try dsimp only at af);go_simp
         (try with_reducible rfl)
        (try simp only[Act.put,lL]);refine wpAnyH_ready (rs:=[8]) (by kernel_rfl) (by simp) ?_;refine AllReadyH.cons rfl (λK hK=>?_) AllReadyH.nil;go_simp;refine hK.out _ _ ?_ (λad=>?_)
        ·exact fM aK.o (.inl cd)
        clear hK K hHeld;have hHeld:=ad;clear ad
        (try simp only[Act.put,lL]);refine wpAnyH_done (by kernel_rfl) ?_ _;have a2:=Hm (aJ.o.setBlk aj.o.ty (.inr λ_ h=>h) (by decide) (by decide) 2 (.slice A9 m9 c9));have a4:=Hm (an.o.setBlk aj.o.ty (.inr λ_ h=>h) (by decide) (by decide) 2 (.slice A9 m9 c9));have a5:=Hm (aj.o.set2 (.slice A9 m9 c9));have aW:=Hm (ai.o.setCell (p:=⟨gR,2,none⟩) aH.o (.slice A9 m9 c9));go_wp2;go_roundg (gk-1)
        case measure=>omega
        case rel=>exact⟨k+1,_,ys++[y.row],by omega,by go_num,a0.o,by simp;omega,a5.o,a2.o,a4.o,aW.o⟩
       ·go_simp;refine hK.out _ _ ?_ (λad=>?_)
        ·exact fO (fH ae.o fI) ao.o ak.o
        clear hK K hHeld;have hHeld:=ad;clear ad
        (try simp only[Act.put,lL]);have j2: ∀o,(w6.alloc o).cell? ⟨gR,2,none⟩=some v:=λo=>fO fI aA.o.lt aA.o.c2;refine wpAnyH_ready (rs:=[1]) (by kernel_rfl) (by simp) ?_;refine AllReadyH.cons rfl (λK hK=>?_) AllReadyH.nil;go_simp;refine hK.out _ _ ?_ (λad=>?_)
        ·exact fO (fH ae.o fI) ao.o ak.o
        clear hK K hHeld;have hHeld:=ad;clear ad
        (try simp only[Act.put,lL]);refine wpAnyH_ready (rs:=[6]) (by kernel_rfl) (by simp) ?_;refine AllReadyH.cons rfl (λK hK=>?_) AllReadyH.nil;refine pK _ rfl _ _ _ rfl uE (by decide) w6 _ rfl am.o (by simp[Act.eval,Act.put]) (by simp[Act.eval,Act.put]) y.row ⟨_,_,_,rfl,bB.o⟩ b9 ca ?_;intro v9 w9 av aL al bg;obtain⟨A9,c9,aN⟩:=av.form;obtain⟨m9,aM⟩: ∃m,(ys++[y.row]).length=m:=⟨_,rfl⟩;rw[aM]at aN;subst aN;clear aM;have aJ:=Hm av;have a1:Hl (some gR≠v.ownBlock):=Hm (λe=>iF.ne aA.o.ty (am.o.ty e.symm).2 (by decide) rfl);have aj:=Hm (aA.o.grown al a1.o);have an:=Hm (aP.o.grown al λk e=>⟨λe2=>iF.ne (am.o.ty e).2 (aP.o.ty e2).2 (by decide) rfl,λhb=>by
         rcases hb with ⟨h,_⟩|⟨_,t,ht,_⟩
         ·exact h
         ·cases ht⟩)
        have aK:=Hm ((World.cell?_of_block (a:=⟨wr.heap.size,0,none⟩) (al.block wr.heap.size (lt_of_cell (fO ae.o ao.o ak.o)) (λe=>iF.ne (bY.o.below ae.o) (am.o.ty e.symm).2 (by decide) rfl))).trans (fO ae.o ao.o ak.o));have ai:=Hm (aI.o.trans ((ae.o.mono aI.o.size).trans aL));have j2:=aj.o.c2;have jf:=aj.o.fz;clear av aL al bg;refine hK.out _ _ ?_ (λad=>?_)
        ·exact aK.o
        clear hK K hHeld;have hHeld:=ad;clear ad
        (try simp only[Act.put,lL]);refine wpAnyH_take (i:=7) (v:=?_) rfl (by kernel_rfl) (by kernel_rfl) (by kernel_rfl) (λ_ _ _ h=>h) (Or.inl ⟨by rfl,?_⟩) hHeld ?_;rotate_left
        ·intro w af
         (try dsimp only at af);go_simp
         (try with_reducible rfl)
        (try simp only[Act.put,lL]);refine wpAnyH_ready (rs:=[8]) (by kernel_rfl) (by simp) ?_;refine AllReadyH.cons rfl (λK hK=>?_) AllReadyH.nil;go_simp;refine hK.out _ _ ?_ (λad=>?_)
        ·exact fM aK.o (.inl cd)
        clear hK K hHeld;have hHeld:=ad;clear ad
        (try simp only[Act.put,lL]);refine wpAnyH_done (by kernel_rfl) ?_ _;have a2:=Hm (aJ.o.setBlk aj.o.ty (.inr λ_ h=>h) (by decide) (by decide) 2 (.slice A9 m9 c9));have a4:=Hm (an.o.setBlk aj.o.ty (.inr λ_ h=>h) (by decide) (by decide) 2 (.slice A9 m9 c9));have a5:=Hm (aj.o.set2 (.slice A9 m9 c9));have aW:=Hm (ai.o.setCell (p:=⟨gR,2,none⟩) aH.o (.slice A9 m9 c9));go_wp2;go_roundg (gk-1)
        case measure=>omega
        case rel=>exact⟨k+1,_,ys++[y.row],by omega,by go_num,a0.o,by simp;omega,a5.o,a2.o,a4.o,aW.o⟩
   ·have HT:Hl (rows.take k=rows):=Hm (List.take_of_length_le (by rw[ch.o];omega));have du:Hl (ys=jh cols NM rows row PV):=Hm (by rw[cq.o,HT.o]);obtain⟨A8,c8,cS⟩:=bx.o.form;obtain⟨m8,cc⟩: ∃m,ys.length=m:=⟨_,rfl⟩;rw[cc]at cS;subst cS;have dJ:=Hm cc;clear cc;have ax:=Hm (fH (fH ah.o ap.o) be.o);have y0:=(ag.o.below ax.o).frozen 0;have y1:=(ag.o.below ax.o).frozen 1;have y2:=(ag.o.below ax.o).frozen 2;have dm:=ci.o;have c0:=aT.o.c0;have dz:=aT.o.c1;have dA:=aT.o.c2;have bI:=Hm (fH (fH (fH (fH ar.o aq.o) ah.o) ap.o) be.o);obtain⟨⟨LR,g0,g1,g2,g3,g4,g5,g6,g7,g8,g9,aD,aE,aF,aG⟩,⟨L2,r0,r1,r2,r3⟩,⟨L3,s0,s1,s2,s3⟩,L4,z0,z1,z2⟩:=o6.o _ ax.o;go_wp2;obtain rfl:=HJ.o;refine bodyPost_ret (v:=.tuple #[.agg #[.string x.name,.slice A7 m7 c7,.slice A8 m8 c8],.int .i64 0]) (gJ (cs:=[.string x.name,.slice A7 m7 c7,.slice A8 m8 c8]) rfl _ _ _ _ _ rfl rfl (iJ z0 z1 z2) Tryz.underlying78 rfl (by kernel_rfl)) rfl ⟨⟨_,_,rfl,((((bP.o.setBlk (ag.o.below ax.o).ty (.inr λ_ h=>h) (by decide) (by decide) _ _).setBlk ((ag.o.below ax.o).ty.set _ _ _) (.inr λ_ h=>h) (by decide) (by decide) _ _).setBlk (((ag.o.below ax.o).ty.set _ _ _).set _ _ _) (.inr λ_ h=>h) (by decide) (by decide) _ _)).rebase bC.o.size,by rw[<-du.o];exact((((bx.o.setBlk (ag.o.below ax.o).ty (.inr λ_ h=>h) (by decide) (by decide) _ _).setBlk ((ag.o.below ax.o).ty.set _ _ _) (.inr λ_ h=>h) (by decide) (by decide) _ _).setBlk (((ag.o.below ax.o).ty.set _ _ _).set _ _ _) (.inr λ_ h=>h) (by decide) (by decide) _ _)).rebase bC.o.size⟩,(((bI.o.setCell (by simp;omega) _).setCell (by simp;omega) _).setCell (by simp;omega) _)⟩
theorem Eb (k:n''<=4096):
  Calls Tryz.prog 53 #[.agg (fZ x A n c A' n' c' A'' n'' c'').toArray,.agg #[.string X,.slice r j c1,.slice G U I,.slice A3 n3 c3],.agg #[.string on,.slice A2 n2 c2,.slice H nl cl,.slice F n4 c4],.slice u n5 z,.slice C E D] w
   λe w'=>(∃g i,e=.returned (.tuple #[.agg #[.string (ql x cols d rows f zs row).2.name,g,i],.int .i64 (ql x cols d rows f zs row).1])/\OL 36 w.heap.size (λ_=>False) [] w' g (ql x cols d rows f zs row).2.values/\OL 23 w.heap.size (λ_=>False) [36] w' i (ql x cols d rows f zs row).2.rows)/\Below w.heap.size w w':=by
 by_cases a:gP x cols d rows f zs=0
 ·by_cases b:cntF (jg x cols d rows f zs).2 row=0
  ·have h:ql x cols d rows f zs row=uU x cols d rows f zs row:=by rw[ql,uU,if_neg (by simp[a]),if_pos b,if_neg (by simp[a]),if_pos b]
   rw[h];exact CG w x A n c M A' n' c' N A'' n'' c'' B hw X r j c1 cols L G U I A3 n3 c3 rows R on A2 n2 c2 d O H nl cl F n4 c4 f P u n5 z zs T Y aa ab ac C E D row Z a b
  ·exact Ed w x A n c M A' n' c' N A'' n'' c'' B hw X r j c1 cols L G U I A3 n3 c3 rows R on A2 n2 c2 d O H nl cl F n4 c4 f P u n5 z zs T Y aa ab ac C E D row Z a b k
 ·have h:ql x cols d rows f zs row=uU x cols d rows f zs row:=by rw[ql,uU,if_pos a,if_pos a]
  rw[h];exact Ec w x A n c M A' n' c' N A'' n'' c'' B hw X r j c1 cols L G U I A3 n3 c3 rows R on A2 n2 c2 d O H nl cl F n4 c4 f P u n5 z zs T Y aa ab ac C E D row Z _ rfl a
end
end Go.Proofs.YtopjjlmfilgngaaGreatDoor
