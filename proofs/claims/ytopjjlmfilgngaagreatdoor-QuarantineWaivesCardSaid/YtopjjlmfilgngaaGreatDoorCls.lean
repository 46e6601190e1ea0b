/-
  The closures of check.violated; check.holds.
-/
import Derived.Test.YtopjjlmfilgngaaGreatDoorGax
import Derived.Test.YtopjjlmfilgngaaGreatDoorEvA
namespace Go.Proofs.YtopjjlmfilgngaaGreatDoor
set_option maxHeartbeats 2000000
set_option maxRecDepth 100000
open Go.RowKit Go.Maps
set_option linter.unusedSimpArgs false
set_option linter.unusedVariables false
structure OwnAt (W:World) (go gr gc:Nat) (A:Option Addr) (n c:Nat) (cols:List Col) (A3:Option Addr) (n3 c3:Nat) (names:List ByteArray):Prop where
 own:W.cell? ⟨go,0,none⟩=some (.func (.func 116) #[] #[.pointer (some ⟨gr,0,none⟩),.pointer (some ⟨gc,0,none⟩)])
 rel:W.cell? ⟨gr,1,none⟩=some (.slice A n c)
 chk:W.cell? ⟨gc,3,none⟩=some (.slice A3 n3 c3)
 cols:In W A n c cols
 names:In W A3 n3 c3 names
theorem OwnAt.below {W W':World}{go gr gc:Nat}{A:Option Addr}{n c:Nat}{cols:List Col}{A3:Option Addr}{n3 c3:Nat}{names:List ByteArray}(h:OwnAt W go gr gc A n c cols A3 n3 c3 names)(hb:Below W.heap.size W W'):OwnAt W' go gr gc A n c cols A3 n3 c3 names:=
 ⟨ah hb (lt_of_cell h.own) h.own,ah hb (lt_of_cell h.rel) h.rel,ah hb (lt_of_cell h.chk) h.chk,h.cols.below hb,h.names.below hb⟩
section
variable (W:World)(go gr gc:Nat)(A:Option Addr)(n c:Nat)(cols:List Col)(A3:Option Addr)(n3 c3:Nat)(names:List ByteArray)(h:OwnAt W go gr gc A n c cols A3 n3 c3 names)(hb0:n<=4096)(hb1:n3<=4096)(Ar:Option Addr)(nr cr:Nat)(row:List Val)(hr:In W Ar nr cr row)
include h hb0 hb1 hr in
theorem yg:
  Calls Tryz.prog 116 #[.slice Ar nr cr,.pointer (some ⟨gr,0,none⟩),.pointer (some ⟨gc,0,none⟩)] W
   λe w'=>(∃A' m c',e=.returned (.slice A' m c')/\In w' A' m c' (aT cols names row))/\Below W.heap.size W w':=by
 have e1:=h.rel;have e2:=h.chk;have HC:=hide h.cols;have HN:=hide h.names;clear h;go_enter Tryz.func116,Tryz.ntmps116;go_wp2_with fail;refine (zR _ A n c cols (by exact HC.out) A3 n3 c3 names (by exact HN.out) Ar nr cr row (by exact hr) (by omega) hb1).mono ?_;rintro e w1 ⟨⟨A',m,c',rfl,ho,hl,hm⟩,hb⟩;have HI:=hide (eu ho hl);have HB:=hide hb;clear ho hl hm hb;go_wp2;go_ret;exact ⟨⟨A',m,c',rfl,HI.out⟩,HB.out⟩
include h hb0 hb1 hr in
theorem IJ (gm b k:Nat)(hm:W.cell? ⟨gm,0,none⟩=some (.map (some b)))(f:ByteArray->Int)(hS:jN Tryz.prog 9 W b k (.int .i64 0) (λs=>.int .i64 (f s))):
  Calls Tryz.prog 118 #[.slice Ar nr cr,.pointer (some ⟨gm,0,none⟩),.pointer (some ⟨go,0,none⟩)] W
   λe w'=>e=.returned (.bool (decide (1<f (bE (aT cols names row)))))/\Below W.heap.size W w':=by
 have e0:=h.own;have l0:=lt_of_cell e0;have lm:=lt_of_cell hm;have HO:=hide h;have HS:=hide hS;have HR:=hide hr;have HM:=hide hm;have HE:=hide e0;have L0:=hide l0;have LM:=hide lm;obtain ⟨T,hT⟩: ∃T,bE (aT cols names row)=T:=⟨_,rfl⟩;have Gp:=hide (mU (aT cols names row));rw[hT]at Gp;have HT:=hide hT;rw[hT];clear hT h hS hr;obtain ⟨PV,uU⟩: ∃p,aT cols names row=p:=⟨_,rfl⟩;have BU:=hide λV hv hr=>yg V go gr gc A n c cols A3 n3 c3 names hv hb0 hb1 Ar nr cr row hr;rw[uU]at HT BU;clear uU;go_enter Tryz.func118,Tryz.ntmps118;go_wp2;have LG:True:=trivial;go_region_held3 (λV=>V.cell? ⟨gm,0,none⟩=some (.map (some b))/\V.cell? ⟨go,0,none⟩=some (.func (.func 116) #[] #[.pointer (some ⟨gr,0,none⟩),.pointer (some ⟨gc,0,none⟩)]))
  (first|exact ⟨ah HB2.out LM.out HM.out,ah HB2.out L0.out HE.out⟩|exact ⟨ah HB1.out LM.out HM.out,ah HB1.out L0.out HE.out⟩|exact ⟨hm,e0⟩)
  (first
   |(clear LG;go_at_call 116;refine (BU.out _ (by exact HO.out.below (Below.refl _ _).drew) (by exact HR.out.below (Below.refl _ _).drew)).mono ?_;rintro e w1 ⟨⟨A',m,c',rfl,hi⟩,hb⟩;have HI:=hide hi;have HB1:=hide (aj hb);clear hi hb;have Oa:True:=trivial)
   |(clear Oa;go_at_call 119;refine (Af _ A' m c' PV (by exact HI.out)).mono ?_;rintro e w2 ⟨rfl,hb2⟩;rw[HT.out];have HB2:=hide (aa HB1.out hb2);have LK:=(HS.out.below HB2.out).look (V:=w2) Tryz.underlying157 Tryz.underlying9 (λV=>Tryz.zeroValue3 V) Gp.out rfl;clear hb2;have RJ:True:=trivial))
 go_wp2;go_ret;exact ⟨rfl,HB2.out⟩
include h hb0 hb1 hr in
theorem Ol:
  Calls Tryz.prog 120 #[.slice Ar nr cr,.pointer (some ⟨go,0,none⟩)] W
   λe w'=>e=.returned (.bool (kX (aT cols names row)))/\Below W.heap.size W w':=by
 have e0:=h.own;have HO:=hide h;have HR:=hide hr;clear h hr;obtain ⟨PV,uU⟩: ∃p,aT cols names row=p:=⟨_,rfl⟩;have BU:=hide λV hv hr=>yg V go gr gc A n c cols A3 n3 c3 names hv hb0 hb1 Ar nr cr row hr;rw[uU]at BU⊢;clear uU;go_enter Tryz.func120,Tryz.ntmps120;go_wp2_with fail;refine (BU.out _ (by exact HO.out) (by exact HR.out)).mono ?_;rintro e w1 ⟨⟨A',m,c',rfl,hi⟩,hb⟩;have HI:=hide hi;have HB1:=hide hb;clear hi hb;go_wp2_with fail;refine (xu _ A' m c' PV (by exact HI.out)).mono ?_;rintro e w2 ⟨rfl,hb2⟩;have HB2:=hide (aa HB1.out hb2);clear hb2;go_wp2;go_ret;exact ⟨rfl,HB2.out⟩
include h hb0 hb1 hr in
theorem KZ (lo hi:Int)(h6:W.cell? ⟨gc,6,none⟩=some (.int .i64 lo))(h7:W.cell? ⟨gc,7,none⟩=some (.int .i64 hi))(hp:0<(aT cols names row).length):
  Calls Tryz.prog 122 #[.slice Ar nr cr,.pointer (some ⟨go,0,none⟩),.pointer (some ⟨gc,0,none⟩)] W
   λe w'=>e=.returned (.bool (((aT cols names row).getD 0 zeroV).kind != 0&&(decide (((aT cols names row).getD 0 zeroV).num<lo) || decide (hi<((aT cols names row).getD 0 zeroV).num))))/\Below W.heap.size W w':=by
 have e0:=h.own;have HO:=hide h;have HR:=hide hr;clear h hr;obtain ⟨PV,uU⟩: ∃p,aT cols names row=p:=⟨_,rfl⟩;have BU:=hide λV hv hr=>yg V go gr gc A n c cols A3 n3 c3 names hv hb0 hb1 Ar nr cr row hr;rw[uU]at BU hp⊢;clear uU;obtain ⟨V,PT,rfl⟩: ∃v l,PV=v :: l:=by
  cases PV with
  |nil=>simp at hp
  |cons v l=>exact ⟨v,l,rfl⟩
 obtain ⟨vk,vn,vs⟩:=V;have HP:=hide (show ((⟨vk,vn,vs⟩ :: PT:List Val).getD 0 zeroV)=⟨vk,vn,vs⟩ from rfl);rw[HP.out];clear hp HP;have LC:=lt_of_cell h6;have H6:=hide h6;have H7:=hide h7;clear h6 h7;go_enter Tryz.func122,Tryz.ntmps122;go_wp2_with fail;refine (BU.out _ (by exact HO.out) (by exact HR.out)).mono ?_;rintro e w1 ⟨⟨A',m,c',rfl,hi'⟩,hb⟩;have q6:=ah hb LC H6.out;have q7:=ah hb LC H7.out;have LC1:=lt_of_cell q6;have HB1:=hide hb;have hm:0<m:=by rw[<-hi'.len];simp
 obtain ⟨b,off,x,rfl,hBb,HX,x0,x1,x2,x3⟩:=hi'.val hm;have hx:=HX.out;rw[List.drop_zero]at hx;injection hx with hx1 hx2;subst hx1;have hcap:=hi'.cap;have z0:(0:Int)<(m:Int):=by omega
 have hz1:(0:Int)<=(c':Int):=by omega
 clear hi' hb hx2 HX;simp only[Nat.zero_mul,Nat.add_zero]at x0 x1 x2;obtain ⟨W2,hW2⟩: ∃W2,W2=w1.alloc (.cells #[.int .i64 vk,.int .i64 vn,.string vs] 36):=⟨_,rfl⟩;have y0:W2.cell? ⟨w1.heap.size,0,none⟩=some (.int .i64 vk):=by rw[hW2];simp[go_sem]
 have y1:W2.cell? ⟨w1.heap.size,1,none⟩=some (.int .i64 vn):=by rw[hW2];simp[go_sem]
 have r6:W2.cell? ⟨gc,6,none⟩=some (.int .i64 lo):=by rw[hW2];exact ah ae LC1 q6
 have r7:W2.cell? ⟨gc,7,none⟩=some (.int .i64 hi):=by rw[hW2];exact ah ae LC1 q7
 have HB2:=hide (show Below W.heap.size W W2 by rw[hW2];exact aa HB1.out ae);by_cases k0:vk=0
 ·subst k0;go_wp2_with fail;rw[<-hW2];go_wp2;all_goals (try (exfalso;go_light;simp_all;done));go_ret;exact ⟨ay (by simp),HB2.out⟩
 ·have k1:(vk != 0)=true:=by simpa using k0
  by_cases k2:vn<lo
  ·have k3:decide (vn<lo)=true:=by simpa using k2
   go_wp2_with fail;rw[<-hW2];go_wp2;all_goals (try (exfalso;go_light;simp_all;done));go_ret;exact ⟨ay (by rw[k1,k3];rfl),HB2.out⟩
  ·have k3:decide (vn<lo)=false:=by simpa using k2
   go_wp2_with fail;rw[<-hW2];go_wp2;all_goals (try (exfalso;go_light;simp_all;done));go_ret;exact ⟨ay (by rw[k1,k3];simp),HB2.out⟩
include h hb0 hb1 hr in
theorem KX (gm b k:Nat)(hm:W.cell? ⟨gm,0,none⟩=some (.map (some b)))(f:ByteArray->Int)(hS:jN Tryz.prog 9 W b k (.int .i64 0) (λs=>.int .i64 (f s))):
  Calls Tryz.prog 123 #[.slice Ar nr cr,.pointer (some ⟨go,0,none⟩),.pointer (some ⟨gm,0,none⟩)] W
   λe w'=>e=.returned (.bool (!kX (aT cols names row)&&f (bE (aT cols names row))==0))/\Below W.heap.size W w':=by
 have e0:=h.own;have l0:=lt_of_cell e0;have lm:=lt_of_cell hm;have HO:=hide h;have HS:=hide hS;have HR:=hide hr;have HM:=hide hm;have HE:=hide e0;have L0:=hide l0;have LM:=hide lm;obtain ⟨T,hT⟩: ∃T,bE (aT cols names row)=T:=⟨_,rfl⟩;have Gp:=hide (mU (aT cols names row));rw[hT]at Gp;have HT:=hide hT;rw[hT];clear hT h hS hr;obtain ⟨PV,uU⟩: ∃p,aT cols names row=p:=⟨_,rfl⟩;have BU:=hide λV hv hr=>yg V go gr gc A n c cols A3 n3 c3 names hv hb0 hb1 Ar nr cr row hr;rw[uU]at HT BU⊢;clear uU;have YK:=hide λV A' m c' hi=>xu V A' m c' PV hi;obtain ⟨N,hN⟩: ∃N,kX PV=N:=⟨_,rfl⟩;rw[hN]at YK⊢;clear hN;cases N
 ·go_enter Tryz.func123,Tryz.ntmps123;go_wp2;have LG:True:=trivial;go_region_held3 (λV=>V.cell? ⟨gm,0,none⟩=some (.map (some b))/\V.cell? ⟨go,0,none⟩=some (.func (.func 116) #[] #[.pointer (some ⟨gr,0,none⟩),.pointer (some ⟨gc,0,none⟩)]))
   (first|exact ⟨ah uA.out LM.out HM.out,ah uA.out L0.out HE.out⟩|exact ⟨ah HB3.out LM.out HM.out,ah HB3.out L0.out HE.out⟩|exact ⟨ah HB2.out LM.out HM.out,ah HB2.out L0.out HE.out⟩|exact ⟨ah HB1.out LM.out HM.out,ah HB1.out L0.out HE.out⟩|exact ⟨hm,e0⟩)
   (first
    |(clear LG;go_at_call 116;refine (BU.out _ (by exact HO.out.below (Below.refl _ _).drew) (by exact HR.out.below (Below.refl _ _).drew)).mono ?_;rintro e w1 ⟨⟨A',m,c',rfl,hi⟩,hb⟩;have HI:=hide hi;have HB1:=hide (aj hb);clear hi hb;have Oa:True:=trivial)
    |(clear Oa;go_at_call 121;refine (YK.out _ A' m c' (by exact HI.out)).mono ?_;rintro e w2 ⟨rfl,hb2⟩;have HB2:=hide (aa HB1.out hb2);clear hb2;have RJ:True:=trivial)
    |(clear RJ;go_at_call 116;refine (BU.out _ (by exact HO.out.below HB2.out) (by exact HR.out.below HB2.out)).mono ?_;rintro e w3 ⟨⟨A5,m5,c5,rfl,hi5⟩,hb3⟩;have U4:=hide hi5;have HB3:=hide (aa HB2.out hb3);clear hi5 hb3;have mk3:True:=trivial)
    |(clear mk3;go_at_call 119;refine (Af _ A5 m5 c5 PV (by exact U4.out)).mono ?_;rintro e w4 ⟨rfl,hb4⟩;rw[HT.out];have uA:=hide (aa HB3.out hb4);have LK:=(HS.out.below uA.out).look (V:=w4) Tryz.underlying157 Tryz.underlying9 (λV=>Tryz.zeroValue3 V) Gp.out rfl;clear hb4;have mk4:True:=trivial))
  go_wp2;go_ret;exact ⟨ay (by simp),uA.out⟩
 ·go_enter Tryz.func123,Tryz.ntmps123;go_wp2;have LG:True:=trivial
  first|(go_region_law (first|(clear LG;go_simp;go_at_call 116;refine (BU.out _ (by exact HO.out.below (Below.refl _ _).drew) (by exact HR.out.below (Below.refl _ _).drew)).mono ?_;rintro e w1 ⟨⟨A',m,c',rfl,hi⟩,hb⟩;have HI:=hide hi;have HB1:=hide (aj hb);clear hi hb;have Oa:True:=trivial;go_wp2_with fail)|(clear Oa;go_simp;go_at_call 121;refine (YK.out _ A' m c' (by exact HI.out)).mono ?_;rintro e w2 ⟨rfl,hb2⟩;have HB2:=hide (aa HB1.out hb2);clear hb2;have RJ:True:=trivial;go_wp2_with fail)))|fail
  all_goals
   go_wp2;go_ret;exact ⟨ay (by simp),HB2.out⟩
end
theorem wY (es:List Node)(cols:List Col)(row:List Val)(zs:List Zone):valid (gW es cols row zs).2=true:=by
 rw[gW];by_cases h1:(bU es cols zs).1=0
 ·rw[if_neg (by omega)];by_cases h2:aG cols row=0
  ·rw[if_neg (by omega)];exact (G8 h2 h1).2.1
  ·rw[if_pos h2];exact lg
 ·rw[if_pos h1];exact lg
theorem Kl (w:World)(x:Chk)(A:Option Addr)(n c:Nat)(A':Option Addr)(n' c':Nat)(aX:Option Addr)(n'' c'':Nat)(hq:In w aX n'' c'' x.cond)(hw:Words w)(A1:Option Addr)(n1 c1:Nat)(cols:List Col)(hc:In w A1 n1 c1 cols)(A3:Option Addr)(n3 c3:Nat)(row:List Val)(hr:In w A3 n3 c3 row)(A2:Option Addr)(n2 c2:Nat)(zs:List Zone)(hz:In w A2 n2 c2 zs):
  Calls Tryz.prog 125 #[.agg (aB x A n c A' n' c' aX n'' c'').toArray,.slice A1 n1 c1,.slice A3 n3 c3,.slice A2 n2 c2] w λe w'=>e=.returned (.bool (nZ x.cond cols row zs))/\Below w.heap.size w w':=by
 have HE:=hide λW hq hw hc hr hz=>M7 W aX n'' c'' x.cond hq hw A1 n1 c1 cols hc A3 n3 c3 row hr A2 n2 c2 zs hz;have HV:=hide (jh (wY x.cond cols row zs));have HD:=hide (show nZ x.cond cols row zs=((gW x.cond cols row zs).1==0&&truth (gW x.cond cols row zs).2==1) from rfl);obtain ⟨R,hR⟩: ∃R,nZ x.cond cols row zs=R:=⟨_,rfl⟩;obtain ⟨E,hE⟩: ∃E,gW x.cond cols row zs=E:=⟨_,rfl⟩;rw[hR]at HD;rw[hE]at HE HV HD;rw[hR];clear hR hE;obtain ⟨ee,vk,vn,vs⟩:=E;simp only[Val.cells]at HE HV HD;simp only[aB];go_enter Tryz.func125,Tryz.ntmps125;have HQ:=hide hq;clear hq;have HW:=hide hw;clear hw;have HC:=hide hc;clear hc;have HR:=hide hr;clear hr;have HZ:=hide hz;clear hz;go_wp2_with fail;obtain ⟨W1,hW1⟩: ∃W,W=w.alloc (.cells #[.string x.name,.string x.table,.int .i64 x.kind,.slice A n c,.string x.other,.slice A' n' c',.int .i64 x.low,.int .i64 x.high,.slice aX n'' c'',.int .i64 x.ln,.int .i64 x.ld,.int .i64 x.mn,.int .i64 x.md,.int .i64 x.policy] 48):=⟨_,rfl⟩;obtain ⟨hbW1,fZ,g0,g1,g2,g3,g4,g5,g6,g7,g8,g9,g10,g11,g12,g13⟩:=bT hW1 rfl;rw[<-hW1];clear hW1;have HQ:=hide (HQ.out.below hbW1);have HW:=hide (HW.out.below hbW1);have HC:=hide (HC.out.below hbW1);have HR:=hide (HR.out.below hbW1);have HZ:=hide (HZ.out.below hbW1);have lN:=hide hbW1;clear hbW1;have LR:=lt_of_cell g0;refine (HE.out _ HQ.out HW.out HC.out HR.out HZ.out).mono ?_;rintro e w2 ⟨rfl,hb2⟩;obtain ⟨g0,g1,g2,g3,g4,g5,g6,g7,g8,g9,g10,g11,g12,g13,LR⟩:=dR hb2 LR g0 g1 g2 g3 g4 g5 g6 g7 g8 g9 g10 g11 g12 g13;have oF:=hide (aa lN.out hb2);clear hb2;clear g1 g2 g3 g4 g5 g6 g7 g8 g9 g10 g11 g12 g13;by_cases h0:ee=0
 ·subst h0;go_wp2_with fail;refine (Lh ⟨vk,vn,vs⟩ HV.out _).mono ?_;rintro e w3 ⟨rfl,hb3⟩;have HB3:=hide (aa oF.out (aa ae hb3));obtain ⟨T,hT⟩: ∃T,truth ⟨vk,vn,vs⟩=T:=⟨_,rfl⟩;rw[hT]at HD⊢;clear hT hb3;go_wp2;go_ret;exact ⟨ay (by rw[HD.out];simp),HB3.out⟩
 ·have q:(ee==0)=false:=by simpa using h0
  obtain rfl:R=false:=by rw[HD.out,q];rfl
  have HB3:=hide (aa oF.out (ae (o:=.cells #[.int .i64 vk,.int .i64 vn,.string vs] 36)));go_wp2;all_goals (try (exfalso;go_light;simp_all;done));go_ret;exact ⟨rfl,HB3.out⟩
structure ChkAt (W:World) (g:Nat) (x:Chk) (A:Option Addr) (n c:Nat) (A':Option Addr) (n' c':Nat) (aX:Option Addr) (n'' c'':Nat):Prop where
 c0:W.cell? ⟨g,0,none⟩=some (.string x.name)
 c1:W.cell? ⟨g,1,none⟩=some (.string x.table)
 c2:W.cell? ⟨g,2,none⟩=some (.int .i64 x.kind)
 c3:W.cell? ⟨g,3,none⟩=some (.slice A n c)
 c4:W.cell? ⟨g,4,none⟩=some (.string x.other)
 c5:W.cell? ⟨g,5,none⟩=some (.slice A' n' c')
 c6:W.cell? ⟨g,6,none⟩=some (.int .i64 x.low)
 c7:W.cell? ⟨g,7,none⟩=some (.int .i64 x.high)
 c8:W.cell? ⟨g,8,none⟩=some (.slice aX n'' c'')
 c9:W.cell? ⟨g,9,none⟩=some (.int .i64 x.ln)
 c10:W.cell? ⟨g,10,none⟩=some (.int .i64 x.ld)
 c11:W.cell? ⟨g,11,none⟩=some (.int .i64 x.mn)
 c12:W.cell? ⟨g,12,none⟩=some (.int .i64 x.md)
 c13:W.cell? ⟨g,13,none⟩=some (.int .i64 x.policy)
theorem ChkAt.below {W W':World}{g:Nat}{x:Chk}{A:Option Addr}{n c:Nat}{A':Option Addr}{n' c':Nat}{aX:Option Addr}{n'' c'':Nat}(h:ChkAt W g x A n c A' n' c' aX n'' c'')(hb:Below W.heap.size W W'):ChkAt W' g x A n c A' n' c' aX n'' c'':=
 ⟨ah hb (lt_of_cell h.c0) h.c0,ah hb (lt_of_cell h.c1) h.c1,ah hb (lt_of_cell h.c2) h.c2,ah hb (lt_of_cell h.c3) h.c3,ah hb (lt_of_cell h.c4) h.c4,ah hb (lt_of_cell h.c5) h.c5,ah hb (lt_of_cell h.c6) h.c6,ah hb (lt_of_cell h.c7) h.c7,ah hb (lt_of_cell h.c8) h.c8,ah hb (lt_of_cell h.c9) h.c9,ah hb (lt_of_cell h.c10) h.c10,ah hb (lt_of_cell h.c11) h.c11,ah hb (lt_of_cell h.c12) h.c12,ah hb (lt_of_cell h.c13) h.c13⟩
theorem MW (W:World)(gc gr gz:Nat)(x:Chk)(A:Option Addr)(n c:Nat)(A':Option Addr)(n' c':Nat)(aX:Option Addr)(n'' c'':Nat)(hx:ChkAt W gc x A n c A' n' c' aX n'' c'')(A1:Option Addr)(n1 c1:Nat)(cols:List Col)(h1:W.cell? ⟨gr,1,none⟩=some (.slice A1 n1 c1))(A2:Option Addr)(n2 c2:Nat)(zs:List Zone)(hz0:W.cell? ⟨gz,0,none⟩=some (.slice A2 n2 c2))(hq:In W aX n'' c'' x.cond)(hw:Words W)(hc:In W A1 n1 c1 cols)(hz:In W A2 n2 c2 zs)(Ar:Option Addr)(nr cr:Nat)(row:List Val)(hr:In W Ar nr cr row):
  Calls Tryz.prog 124 #[.slice Ar nr cr,.pointer (some ⟨gc,0,none⟩),.pointer (some ⟨gr,0,none⟩),.pointer (some ⟨gz,0,none⟩)] W
   λe w'=>e=.returned (.bool (!nZ x.cond cols row zs))/\Below W.heap.size W w':=by
 have HH:=hide (Kl W x A n c A' n' c' aX n'' c'' hq hw A1 n1 c1 cols hc Ar nr cr row hr A2 n2 c2 zs hz);obtain ⟨g0,g1,g2,g3,g4,g5,g6,g7,g8,g9,g10,g11,g12,g13⟩:=hx;clear hq hw hc hz hr;go_enter Tryz.func124,Tryz.ntmps124;go_wp2_with fail;refine HH.out.mono ?_;rintro e w1 ⟨rfl,hb⟩;have HB:=hide hb;clear hb g0 g1 g2 g3 g4 g5 g6 g7 g8 g9 g10 g11 g12 g13;go_wp2;go_ret;exact ⟨rfl,HB.out⟩
theorem Oi (W:World)(v:Value):Calls Tryz.prog 126 #[v] W λe w'=>e=.returned (.bool false)/\Below W.heap.size W w':=by
 go_enter Tryz.func126,Tryz.ntmps126;go_wp2;go_ret;exact ⟨rfl,Below.refl _ _⟩
end Go.Proofs.YtopjjlmfilgngaaGreatDoor
