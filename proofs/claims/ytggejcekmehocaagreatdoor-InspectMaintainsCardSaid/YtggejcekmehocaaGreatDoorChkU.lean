/-
  warehouseref28.Validate: checks with conditions; whole. (Printed by gen_valr.py.)
-/
import Derived.Test.YtggejcekmehocaaGreatDoorGbc
import Derived.Test.YtggejcekmehocaaGreatDoorGap
namespace Go.Proofs.YtggejcekmehocaaGreatDoor
set_option maxHeartbeats 4000000
set_option maxRecDepth 100000
open Go.RowKit
set_option linter.unusedSimpArgs false
set_option linter.unusedVariables false
def dJ (x:Chk)(k:Nat):Bool:=if k=0 then (bK x.ln x.ld&&bK x.mn x.md) else if k=1 then bK x.mn x.md else true
theorem zS (n d:Int):(decide (n<0)=true/\bK n d=false)\/(decide (n<0)=false/\decide (1073741824<n)=true/\bK n d=false)\/(decide (n<0)=false/\decide (1073741824<n)=false/\decide (d<1)=true/\bK n d=false)
  \/(decide (n<0)=false/\decide (1073741824<n)=false/\decide (d<1)=false/\decide (1073741824<d)=true/\bK n d=false)\/(decide (n<0)=false/\decide (1073741824<n)=false/\decide (d<1)=false/\decide (1073741824<d)=false/\bK n d=true):=by
 by_cases a1:n<0
 ·exact .inl ⟨by simpa using a1,by rw[bK];simp;omega⟩
 by_cases a2:1073741824<n
 ·exact .inr (.inl ⟨by simpa using a1,by simpa using a2,by rw[bK];simp;omega⟩)
 by_cases a3:d<1
 ·exact .inr (.inr (.inl ⟨by simpa using a1,by simpa using a2,by simpa using a3,by rw[bK];simp;omega⟩))
 by_cases a4:1073741824<d
 ·exact .inr (.inr (.inr (.inl ⟨by simpa using a1,by simpa using a2,by simpa using a3,by simpa using a4,by rw[bK];simp;omega⟩)))
 ·exact .inr (.inr (.inr (.inr ⟨by simpa using a1,by simpa using a2,by simpa using a3,by simpa using a4,by rw[bK];simp;omega⟩)))
theorem Ba (w:World)(x:Chk)(A:Option Addr)(n c:Nat)(hn:In w A n c x.cols)(A':Option Addr)(n' c':Nat)(hn':In w A' n' c' x.ocols)(aK:Option Addr)(n'' c'':Nat)(hq:In w aK n'' c'' x.cond)(A1:Option Addr)(n1 c1:Nat)(cols:List Col)(hc:In w A1 n1 c1 cols)(A2:Option Addr)(n2 c2:Nat)(ocols:List Col)(ho:In w A2 n2 c2 ocols)(A5:Option Addr)(n5 c5:Nat)(zs:List Zone)(hz:In w A5 n5 c5 zs)(hb0:n<=4096)(hb1:n'<=4096)(hb2:n1<=4096)(hb3:n2<=4096)(hp:jH x)(k4:(x.kind==4)=true)(k5:(x.kind==5)=false)(k6:(x.kind==6)=false)(p0:(x.policy==0)=true):
  Calls Tryz.prog 80 #[.agg (ak x A n c A' n' c' aK n'' c'').toArray,.slice A1 n1 c1,.slice A2 n2 c2,.slice A5 n5 c5] w λe w'=>e=.returned (.int .i64 (aR x cols ocols zs))/\Below w.heap.size w w':=by
 have H5:=hide (by simpa using k5:¬x.kind=5);have HD0:=hide (show aR x cols ocols zs=if aA cols≠0 then aA cols else if fH x cols zs≠0 then fH x cols zs else if x.kind=5/\(bK x.ln x.ld&&bK x.mn x.md)=false then 1 else 0 from by
  rw[gD x cols ocols zs hp.1 hp.2];have:iW x.kind=true:=by rw[iW,k4,k5];rfl
  rw[this];simp)
 rw[fH]at HD0;have Kb:=nT hc;have KF:=hide λW hq hc hz=>vV W aK n'' c'' x.cond hq A1 n1 c1 cols hc Kb A5 n5 c5 zs hz;obtain ⟨R,hR⟩: ∃R,aR x cols ocols zs=R:=⟨_,rfl⟩;obtain ⟨T,hT⟩: ∃T,bG x.cond cols zs=T:=⟨_,rfl⟩;obtain ⟨C1,wm⟩: ∃CE,aA cols=CE:=⟨_,rfl⟩;rw[hR,hT,wm]at HD0;rw[hT]at KF;rw[hR];have FQ:=hide wm;clear hR hT wm Kb;obtain ⟨te,tk,tn⟩:=T;simp only at HD0 KF;obtain ⟨d1,d2,d3,d4⟩:=hp.dec;clear hp;simp only[ak];go_enter Tryz.func80,Tryz.ntmps80;have HQ:=hide hq;clear hq;have HC:=hide hc;clear hc;have HZ:=hide hz;clear hz;go_wp2_with fail;obtain ⟨W1,hW1⟩: ∃W,W=w.alloc (.cells #[.string x.name,.string x.table,.int .i64 x.kind,.slice A n c,.string x.other,.slice A' n' c',.int .i64 x.low,.int .i64 x.high,.slice aK n'' c'',.int .i64 x.ln,.int .i64 x.ld,.int .i64 x.mn,.int .i64 x.md,.int .i64 x.policy] 27):=⟨_,rfl⟩;obtain ⟨hbW1,gB,g0,g1,g2,g3,g4,g5,g6,g7,g8,g9,g10,g11,g12,g13⟩:=bM hW1 rfl;rw[<-hW1];clear hW1;have p8:=hide hbW1;clear hbW1;have LR:=lt_of_cell g0;go_wp2_with fail;refine (jC _ A1 n1 c1 cols (HC.out.below p8.out)).mono ?_;rintro e w6 ⟨rfl,rfl⟩;rw[FQ.out];by_cases hc1:C1=0;rotate_left
 ·have q0:(C1 != 0)=true:=by simpa using hc1
  obtain rfl:R=C1:=by rw[HD0.out,if_pos hc1]
  go_wp2;all_goals (try (exfalso;go_light;simp_all;done));go_ret;exact ⟨rfl,p8.out⟩
 subst hc1;go_wp2_with fail;refine (KF.out _ (HQ.out.below p8.out) (HC.out.below p8.out) (HZ.out.below p8.out)).mono ?_;rintro e w2 ⟨rfl,hb2⟩;have o3:=iE g0 g1 g2 g3 g4 g5 g6 g7 g8 g9 g10 g11 g12 g13;have kK:=hide hb2;clear hb2;by_cases ht:te=0;rotate_left
 ·have q0:(te != 0)=true:=by simpa using ht
  obtain rfl:R=te:=by rw[HD0.out];simp[ht]
  obtain ⟨LR,g0,g1,g2,g3,g4,g5,g6,g7,g8,g9,g10,g11,g12,g13⟩:=o3.out _ kK.out;go_wp2;all_goals (try (exfalso;go_light;simp_all;done));go_ret;exact ⟨rfl,(aa p8.out kK.out)⟩
 subst ht;by_cases hk1:tk=1
 ·subst hk1;have q1:((1:Int) != 1)=false:=by decide
  obtain rfl:R=0:=by rw[HD0.out];simp[H5.out]
  obtain ⟨LR,g0,g1,g2,g3,g4,g5,g6,g7,g8,g9,g10,g11,g12,g13⟩:=o3.out _ kK.out;go_wp2;all_goals (try (exfalso;go_light;simp_all;done));go_ret;exact ⟨rfl,(aa p8.out kK.out)⟩
 ·have q1:(tk != 1)=true:=by simpa using hk1
  by_cases hk0:tk=0
  ·subst hk0;have q2:((0:Int) != 0)=false:=by decide
   obtain rfl:R=0:=by rw[HD0.out];simp[H5.out]
   obtain ⟨LR,g0,g1,g2,g3,g4,g5,g6,g7,g8,g9,g10,g11,g12,g13⟩:=o3.out _ kK.out;go_wp2;all_goals (try (exfalso;go_light;simp_all;done));go_ret;exact ⟨rfl,(aa p8.out kK.out)⟩
  ·have q2:(tk != 0)=true:=by simpa using hk0
   obtain rfl:R=7:=by rw[HD0.out];simp[hk1,hk0]
   obtain ⟨LR,g0,g1,g2,g3,g4,g5,g6,g7,g8,g9,g10,g11,g12,g13⟩:=o3.out _ kK.out;go_wp2;all_goals (try (exfalso;go_light;simp_all;done));go_ret;exact ⟨rfl,(aa p8.out kK.out)⟩
theorem Bb (w:World)(x:Chk)(A:Option Addr)(n c:Nat)(hn:In w A n c x.cols)(A':Option Addr)(n' c':Nat)(hn':In w A' n' c' x.ocols)(aK:Option Addr)(n'' c'':Nat)(hq:In w aK n'' c'' x.cond)(A1:Option Addr)(n1 c1:Nat)(cols:List Col)(hc:In w A1 n1 c1 cols)(A2:Option Addr)(n2 c2:Nat)(ocols:List Col)(ho:In w A2 n2 c2 ocols)(A5:Option Addr)(n5 c5:Nat)(zs:List Zone)(hz:In w A5 n5 c5 zs)(hb0:n<=4096)(hb1:n'<=4096)(hb2:n1<=4096)(hb3:n2<=4096)(hp:jH x)(k4:(x.kind==4)=true)(k5:(x.kind==5)=false)(p0:(x.policy==0)=false):
  Calls Tryz.prog 80 #[.agg (ak x A n c A' n' c' aK n'' c'').toArray,.slice A1 n1 c1,.slice A2 n2 c2,.slice A5 n5 c5] w λe w'=>e=.returned (.int .i64 (aR x cols ocols zs))/\Below w.heap.size w w':=by
 have H5:=hide (by simpa using k5:¬x.kind=5);have HD0:=hide (show aR x cols ocols zs=if aA cols≠0 then aA cols else if fH x cols zs≠0 then fH x cols zs else if x.kind=5/\(bK x.ln x.ld&&bK x.mn x.md)=false then 1 else 0 from by
  rw[gD x cols ocols zs hp.1 hp.2];have:iW x.kind=true:=by rw[iW,k4,k5];rfl
  rw[this];simp)
 rw[fH]at HD0;have Kb:=nT hc;have KF:=hide λW hq hc hz=>vV W aK n'' c'' x.cond hq A1 n1 c1 cols hc Kb A5 n5 c5 zs hz;obtain ⟨R,hR⟩: ∃R,aR x cols ocols zs=R:=⟨_,rfl⟩;obtain ⟨T,hT⟩: ∃T,bG x.cond cols zs=T:=⟨_,rfl⟩;obtain ⟨C1,wm⟩: ∃CE,aA cols=CE:=⟨_,rfl⟩;rw[hR,hT,wm]at HD0;rw[hT]at KF;rw[hR];have FQ:=hide wm;clear hR hT wm Kb;obtain ⟨te,tk,tn⟩:=T;simp only at HD0 KF;obtain ⟨d1,d2,d3,d4⟩:=hp.dec;clear hp;simp only[ak];go_enter Tryz.func80,Tryz.ntmps80;have HQ:=hide hq;clear hq;have HC:=hide hc;clear hc;have HZ:=hide hz;clear hz;go_wp2_with fail;obtain ⟨W1,hW1⟩: ∃W,W=w.alloc (.cells #[.string x.name,.string x.table,.int .i64 x.kind,.slice A n c,.string x.other,.slice A' n' c',.int .i64 x.low,.int .i64 x.high,.slice aK n'' c'',.int .i64 x.ln,.int .i64 x.ld,.int .i64 x.mn,.int .i64 x.md,.int .i64 x.policy] 27):=⟨_,rfl⟩;obtain ⟨hbW1,gB,g0,g1,g2,g3,g4,g5,g6,g7,g8,g9,g10,g11,g12,g13⟩:=bM hW1 rfl;rw[<-hW1];clear hW1;have qj:=hide hbW1;clear hbW1;have LR:=lt_of_cell g0;go_wp2_with fail;refine (jC _ A1 n1 c1 cols (HC.out.below qj.out)).mono ?_;rintro e w6 ⟨rfl,rfl⟩;rw[FQ.out];by_cases hc1:C1=0;rotate_left
 ·have q0:(C1 != 0)=true:=by simpa using hc1
  obtain rfl:R=C1:=by rw[HD0.out,if_pos hc1]
  go_wp2;all_goals (try (exfalso;go_light;simp_all;done));go_ret;exact ⟨rfl,qj.out⟩
 subst hc1;go_wp2_with fail;refine (KF.out _ (HQ.out.below qj.out) (HC.out.below qj.out) (HZ.out.below qj.out)).mono ?_;rintro e w6 ⟨rfl,hb6⟩;have o7:=iE g0 g1 g2 g3 g4 g5 g6 g7 g8 g9 g10 g11 g12 g13;have qU:=hide hb6;clear hb6;by_cases ht:te=0;rotate_left
 ·have q0:(te != 0)=true:=by simpa using ht
  obtain rfl:R=te:=by rw[HD0.out];simp[ht]
  obtain ⟨LR,g0,g1,g2,g3,g4,g5,g6,g7,g8,g9,g10,g11,g12,g13⟩:=o7.out _ qU.out;go_wp2;all_goals (try (exfalso;go_light;simp_all;done));go_ret;exact ⟨rfl,(aa qj.out qU.out)⟩
 subst ht;by_cases hk1:tk=1
 ·subst hk1;have q1:((1:Int) != 1)=false:=by decide
  obtain rfl:R=0:=by rw[HD0.out];simp[H5.out]
  obtain ⟨LR,g0,g1,g2,g3,g4,g5,g6,g7,g8,g9,g10,g11,g12,g13⟩:=o7.out _ qU.out;go_wp2;all_goals (try (exfalso;go_light;simp_all;done));go_ret;exact ⟨rfl,(aa qj.out qU.out)⟩
 ·have q1:(tk != 1)=true:=by simpa using hk1
  by_cases hk0:tk=0
  ·subst hk0;have q2:((0:Int) != 0)=false:=by decide
   obtain rfl:R=0:=by rw[HD0.out];simp[H5.out]
   obtain ⟨LR,g0,g1,g2,g3,g4,g5,g6,g7,g8,g9,g10,g11,g12,g13⟩:=o7.out _ qU.out;go_wp2;all_goals (try (exfalso;go_light;simp_all;done));go_ret;exact ⟨rfl,(aa qj.out qU.out)⟩
  ·have q2:(tk != 0)=true:=by simpa using hk0
   obtain rfl:R=7:=by rw[HD0.out];simp[hk1,hk0]
   obtain ⟨LR,g0,g1,g2,g3,g4,g5,g6,g7,g8,g9,g10,g11,g12,g13⟩:=o7.out _ qU.out;go_wp2;all_goals (try (exfalso;go_light;simp_all;done));go_ret;exact ⟨rfl,(aa qj.out qU.out)⟩
theorem Bc (w:World)(x:Chk)(A:Option Addr)(n c:Nat)(hn:In w A n c x.cols)(A':Option Addr)(n' c':Nat)(hn':In w A' n' c' x.ocols)(aK:Option Addr)(n'' c'':Nat)(hq:In w aK n'' c'' x.cond)(A1:Option Addr)(n1 c1:Nat)(cols:List Col)(hc:In w A1 n1 c1 cols)(A2:Option Addr)(n2 c2:Nat)(ocols:List Col)(ho:In w A2 n2 c2 ocols)(A5:Option Addr)(n5 c5:Nat)(zs:List Zone)(hz:In w A5 n5 c5 zs)(hb0:n<=4096)(hb1:n'<=4096)(hb2:n1<=4096)(hb3:n2<=4096)(hp:jH x)(k4:(x.kind==4)=false)(k5:(x.kind==5)=true)(p0:(x.policy==0)=false):
  Calls Tryz.prog 80 #[.agg (ak x A n c A' n' c' aK n'' c'').toArray,.slice A1 n1 c1,.slice A2 n2 c2,.slice A5 n5 c5] w λe w'=>e=.returned (.int .i64 (aR x cols ocols zs))/\Below w.heap.size w w':=by
 have H5:=hide (by simpa using k5:x.kind=5);have HD0:=hide (show aR x cols ocols zs=if aA cols≠0 then aA cols else if fH x cols zs≠0 then fH x cols zs else if x.kind=5/\(bK x.ln x.ld&&bK x.mn x.md)=false then 1 else 0 from by
  rw[gD x cols ocols zs hp.1 hp.2];have:iW x.kind=true:=by rw[iW,k4,k5];rfl
  rw[this];simp)
 rw[fH]at HD0;have Kb:=nT hc;have KF:=hide λW hq hc hz=>vV W aK n'' c'' x.cond hq A1 n1 c1 cols hc Kb A5 n5 c5 zs hz;obtain ⟨R,hR⟩: ∃R,aR x cols ocols zs=R:=⟨_,rfl⟩;obtain ⟨T,hT⟩: ∃T,bG x.cond cols zs=T:=⟨_,rfl⟩;obtain ⟨C1,wm⟩: ∃CE,aA cols=CE:=⟨_,rfl⟩;rw[hR,hT,wm]at HD0;rw[hT]at KF;rw[hR];have FQ:=hide wm;clear hR hT wm Kb;obtain ⟨te,tk,tn⟩:=T;simp only at HD0 KF;obtain ⟨d1,d2,d3,d4⟩:=hp.dec;clear hp;simp only[ak];go_enter Tryz.func80,Tryz.ntmps80;have HQ:=hide hq;clear hq;have HC:=hide hc;clear hc;have HZ:=hide hz;clear hz;go_wp2_with fail;obtain ⟨W1,hW1⟩: ∃W,W=w.alloc (.cells #[.string x.name,.string x.table,.int .i64 x.kind,.slice A n c,.string x.other,.slice A' n' c',.int .i64 x.low,.int .i64 x.high,.slice aK n'' c'',.int .i64 x.ln,.int .i64 x.ld,.int .i64 x.mn,.int .i64 x.md,.int .i64 x.policy] 27):=⟨_,rfl⟩;obtain ⟨hbW1,gB,g0,g1,g2,g3,g4,g5,g6,g7,g8,g9,g10,g11,g12,g13⟩:=bM hW1 rfl;rw[<-hW1];clear hW1;have oQ:=hide hbW1;clear hbW1;have LR:=lt_of_cell g0;go_wp2_with fail;refine (jC _ A1 n1 c1 cols (HC.out.below oQ.out)).mono ?_;rintro e w6 ⟨rfl,rfl⟩;rw[FQ.out];by_cases hc1:C1=0;rotate_left
 ·have q0:(C1 != 0)=true:=by simpa using hc1
  obtain rfl:R=C1:=by rw[HD0.out,if_pos hc1]
  go_wp2;all_goals (try (exfalso;go_light;simp_all;done));go_ret;exact ⟨rfl,oQ.out⟩
 subst hc1;go_wp2_with fail;refine (KF.out _ (HQ.out.below oQ.out) (HC.out.below oQ.out) (HZ.out.below oQ.out)).mono ?_;rintro e VM ⟨rfl,vB⟩;have Fb:=iE g0 g1 g2 g3 g4 g5 g6 g7 g8 g9 g10 g11 g12 g13;have jw:=hide vB;clear vB;by_cases ht:te=0;rotate_left
 ·have q0:(te != 0)=true:=by simpa using ht
  obtain rfl:R=te:=by rw[HD0.out];simp[ht]
  obtain ⟨LR,g0,g1,g2,g3,g4,g5,g6,g7,g8,g9,g10,g11,g12,g13⟩:=Fb.out _ jw.out;go_wp2;all_goals (try (exfalso;go_light;simp_all;done));go_ret;exact ⟨rfl,(aa oQ.out jw.out)⟩
 subst ht;by_cases hk1:tk=1
 ·subst hk1;have q1:((1:Int) != 1)=false:=by decide
  have HRR:Hid (R=if dJ x 0=false then 1 else 0):=hide (by rw[HD0.out,dJ];simp[H5.out]);clear HD0;obtain ⟨W3,rfl⟩: ∃W,W=VM:=⟨_,rfl⟩;obtain ⟨LR,g0,g1,g2,g3,g4,g5,g6,g7,g8,g9,g10,g11,g12,g13⟩:=Fb.out _ jw.out;go_upto_region 15 with (fail);go_wp2_with fail;obtain ⟨W4,mo⟩: ∃W,W=W3.alloc (.cells #[.int .i64 x.ln,.int .i64 x.ld,.int .i64 x.mn,.int .i64 x.md] 25):=⟨_,rfl⟩;obtain ⟨iK,rD,y0,y1,y2,y3⟩:=qx mo rfl;rw[<-mo];clear mo;have jy:=hide iK;clear iK;have L4:=lt_of_cell y0;have yF:=hide (aa jw.out jy.out);obtain ⟨LR,g0,g1,g2,g3,g4,g5,g6,g7,g8,g9,g10,g11,g12,g13⟩:=Fb.out _ yF.out;go_loopw [92] (λi wr=> ∃k:Nat,k<=2/\i=.int .i64 k/\dJ x 0=dJ x k/\Below W4.heap.size W4 wr) (λi _=>2-(RowKit.intOf i).toNat)
  case atStart=>exact ⟨0,by omega,rfl,rfl,Below.refl _ _⟩
  case round=>
   obtain ⟨k,hk,rfl,heq,hb⟩:=hrel;have HE:=hide heq;clear heq;have Qj:=kM (iE g0 g1 g2 g3 g4 g5 g6 g7 g8 g9 g10 g11 g12 g13) (jo y0 y1 y2 y3);have nS:=hide hb;clear hb;have Hy:=hide nS.out;have jZ:=hide (aa (aa (aa oQ.out jw.out) jy.out) nS.out);by_cases hlt:k<2
   ·have hkk: ∃rn rd,wr.cell? ⟨W3.heap.size,k*2,none⟩=some (.int .i64 rn)/\wr.cell? ⟨W3.heap.size,k*2+1,none⟩=some (.int .i64 rd)/\Hid (dJ x k=(bK rn rd&&dJ x (k+1))):=by
     rcases (by omega:k=0\/k=1) with rfl|rfl
     ·obtain ⟨⟨LR,g0,g1,g2,g3,g4,g5,g6,g7,g8,g9,g10,g11,g12,g13⟩,L4,y0,y1,y2,y3⟩:=Qj.out _ nS.out;exact ⟨x.ln,x.ld,y0,y1,hide (by simp[dJ])⟩
     ·obtain ⟨⟨LR,g0,g1,g2,g3,g4,g5,g6,g7,g8,g9,g10,g11,g12,g13⟩,L4,y0,y1,y2,y3⟩:=Qj.out _ nS.out;exact ⟨x.mn,x.md,y2,y3,hide (by simp[dJ])⟩
    obtain ⟨rn,rd,e0,e1,Ci⟩:=hkk;have k0:(0:Int)<=(k:Int):=by omega
    have k1:(k:Int)<2:=by omega
    obtain ⟨⟨LR,g0,g1,g2,g3,g4,g5,g6,g7,g8,g9,g10,g11,g12,g13⟩,L4,y0,y1,y2,y3⟩:=Qj.out _ nS.out;clear y0 y1 y2 y3;have NJ:=hide (aa jZ.out (ae (o:=.cells #[.int .i64 rn,.int .i64 rd] 25)));have Wz:=hide (aa Hy.out (ae (o:=.cells #[.int .i64 rn,.int .i64 rd] 25)));rcases zS rn rd with ⟨a1,hr⟩|⟨a1,a2,hr⟩|⟨a1,a2,a3,hr⟩|⟨a1,a2,a3,a4,hr⟩|⟨a1,a2,a3,a4,hr⟩
    ·obtain rfl:R=1:=by rw[HRR.out,HE.out,Ci.out,hr];simp
     clear hr;go_wp2;all_goals (try (exfalso;go_light;simp_all;done));go_ret;exact ⟨rfl,NJ.out⟩
    ·obtain rfl:R=1:=by rw[HRR.out,HE.out,Ci.out,hr];simp
     clear hr;go_wp2;all_goals (try (exfalso;go_light;simp_all;done));go_ret;exact ⟨rfl,NJ.out⟩
    ·obtain rfl:R=1:=by rw[HRR.out,HE.out,Ci.out,hr];simp
     clear hr;go_wp2;all_goals (try (exfalso;go_light;simp_all;done));go_ret;exact ⟨rfl,NJ.out⟩
    ·obtain rfl:R=1:=by rw[HRR.out,HE.out,Ci.out,hr];simp
     clear hr;go_wp2;all_goals (try (exfalso;go_light;simp_all;done));go_ret;exact ⟨rfl,NJ.out⟩
    ·have HN:Hid (dJ x 0=dJ x (k+1)):=hide (by rw[HE.out,Ci.out,hr];simp);clear hr;go_wp2;all_goals (try (exfalso;go_light;simp_all;done));go_roundw
     case rel=>exact ⟨k+1,by omega,by go_num,HN.out,Wz.out⟩
     case measure=>simp[RowKit.intOf];omega
   ·obtain rfl:k=2:=by omega
    obtain rfl:R=0:=by rw[HRR.out,HE.out];simp[dJ]
    obtain ⟨⟨LR,g0,g1,g2,g3,g4,g5,g6,g7,g8,g9,g10,g11,g12,g13⟩,L4,y0,y1,y2,y3⟩:=Qj.out _ nS.out;go_wp2;all_goals (try (exfalso;go_light;simp_all;done));go_ret;exact ⟨rfl,jZ.out⟩
 ·have q1:(tk != 1)=true:=by simpa using hk1
  by_cases hk0:tk=0
  ·subst hk0;have q2:((0:Int) != 0)=false:=by decide
   have HRR:Hid (R=if dJ x 0=false then 1 else 0):=hide (by rw[HD0.out,dJ];simp[H5.out]);clear HD0;obtain ⟨W3,rfl⟩: ∃W,W=VM:=⟨_,rfl⟩;obtain ⟨LR,g0,g1,g2,g3,g4,g5,g6,g7,g8,g9,g10,g11,g12,g13⟩:=Fb.out _ jw.out;go_upto_region 15 with (fail);go_wp2_with fail;obtain ⟨W4,mo⟩: ∃W,W=W3.alloc (.cells #[.int .i64 x.ln,.int .i64 x.ld,.int .i64 x.mn,.int .i64 x.md] 25):=⟨_,rfl⟩;obtain ⟨iK,rD,y0,y1,y2,y3⟩:=qx mo rfl;rw[<-mo];clear mo;have ma:=hide iK;clear iK;have L4:=lt_of_cell y0;have Qp:=hide (aa jw.out ma.out);obtain ⟨LR,g0,g1,g2,g3,g4,g5,g6,g7,g8,g9,g10,g11,g12,g13⟩:=Fb.out _ Qp.out;go_loopw [92] (λi wr=> ∃k:Nat,k<=2/\i=.int .i64 k/\dJ x 0=dJ x k/\Below W4.heap.size W4 wr) (λi _=>2-(RowKit.intOf i).toNat)
   case atStart=>exact ⟨0,by omega,rfl,rfl,Below.refl _ _⟩
   case round=>
    obtain ⟨k,hk,rfl,heq,hb⟩:=hrel;have HE:=hide heq;clear heq;have Vz:=kM (iE g0 g1 g2 g3 g4 g5 g6 g7 g8 g9 g10 g11 g12 g13) (jo y0 y1 y2 y3);have gM:=hide hb;clear hb;have Hy:=hide gM.out;have jZ:=hide (aa (aa (aa oQ.out jw.out) ma.out) gM.out);by_cases hlt:k<2
    ·have hkk: ∃rn rd,wr.cell? ⟨W3.heap.size,k*2,none⟩=some (.int .i64 rn)/\wr.cell? ⟨W3.heap.size,k*2+1,none⟩=some (.int .i64 rd)/\Hid (dJ x k=(bK rn rd&&dJ x (k+1))):=by
      rcases (by omega:k=0\/k=1) with rfl|rfl
      ·obtain ⟨⟨LR,g0,g1,g2,g3,g4,g5,g6,g7,g8,g9,g10,g11,g12,g13⟩,L4,y0,y1,y2,y3⟩:=Vz.out _ gM.out;exact ⟨x.ln,x.ld,y0,y1,hide (by simp[dJ])⟩
      ·obtain ⟨⟨LR,g0,g1,g2,g3,g4,g5,g6,g7,g8,g9,g10,g11,g12,g13⟩,L4,y0,y1,y2,y3⟩:=Vz.out _ gM.out;exact ⟨x.mn,x.md,y2,y3,hide (by simp[dJ])⟩
     obtain ⟨rn,rd,e0,e1,Ci⟩:=hkk;have k0:(0:Int)<=(k:Int):=by omega
     have k1:(k:Int)<2:=by omega
     obtain ⟨⟨LR,g0,g1,g2,g3,g4,g5,g6,g7,g8,g9,g10,g11,g12,g13⟩,L4,y0,y1,y2,y3⟩:=Vz.out _ gM.out;clear y0 y1 y2 y3;have NJ:=hide (aa jZ.out (ae (o:=.cells #[.int .i64 rn,.int .i64 rd] 25)));have Wz:=hide (aa Hy.out (ae (o:=.cells #[.int .i64 rn,.int .i64 rd] 25)));rcases zS rn rd with ⟨a1,hr⟩|⟨a1,a2,hr⟩|⟨a1,a2,a3,hr⟩|⟨a1,a2,a3,a4,hr⟩|⟨a1,a2,a3,a4,hr⟩
     ·obtain rfl:R=1:=by rw[HRR.out,HE.out,Ci.out,hr];simp
      clear hr;go_wp2;all_goals (try (exfalso;go_light;simp_all;done));go_ret;exact ⟨rfl,NJ.out⟩
     ·obtain rfl:R=1:=by rw[HRR.out,HE.out,Ci.out,hr];simp
      clear hr;go_wp2;all_goals (try (exfalso;go_light;simp_all;done));go_ret;exact ⟨rfl,NJ.out⟩
     ·obtain rfl:R=1:=by rw[HRR.out,HE.out,Ci.out,hr];simp
      clear hr;go_wp2;all_goals (try (exfalso;go_light;simp_all;done));go_ret;exact ⟨rfl,NJ.out⟩
     ·obtain rfl:R=1:=by rw[HRR.out,HE.out,Ci.out,hr];simp
      clear hr;go_wp2;all_goals (try (exfalso;go_light;simp_all;done));go_ret;exact ⟨rfl,NJ.out⟩
     ·have HN:Hid (dJ x 0=dJ x (k+1)):=hide (by rw[HE.out,Ci.out,hr];simp);clear hr;go_wp2;all_goals (try (exfalso;go_light;simp_all;done));go_roundw
      case rel=>exact ⟨k+1,by omega,by go_num,HN.out,Wz.out⟩
      case measure=>simp[RowKit.intOf];omega
    ·obtain rfl:k=2:=by omega
     obtain rfl:R=0:=by rw[HRR.out,HE.out];simp[dJ]
     obtain ⟨⟨LR,g0,g1,g2,g3,g4,g5,g6,g7,g8,g9,g10,g11,g12,g13⟩,L4,y0,y1,y2,y3⟩:=Vz.out _ gM.out;go_wp2;all_goals (try (exfalso;go_light;simp_all;done));go_ret;exact ⟨rfl,jZ.out⟩
  ·have q2:(tk != 0)=true:=by simpa using hk0
   obtain rfl:R=7:=by rw[HD0.out];simp[hk1,hk0]
   obtain ⟨LR,g0,g1,g2,g3,g4,g5,g6,g7,g8,g9,g10,g11,g12,g13⟩:=Fb.out _ jw.out;go_wp2;all_goals (try (exfalso;go_light;simp_all;done));go_ret;exact ⟨rfl,(aa oQ.out jw.out)⟩
theorem Af (w:World)(x:Chk)(A:Option Addr)(n c:Nat)(hn:In w A n c x.cols)(A':Option Addr)(n' c':Nat)(hn':In w A' n' c' x.ocols)(aK:Option Addr)(n'' c'':Nat)(hq:In w aK n'' c'' x.cond)(A1:Option Addr)(n1 c1:Nat)(cols:List Col)(hc:In w A1 n1 c1 cols)(A2:Option Addr)(n2 c2:Nat)(ocols:List Col)(ho:In w A2 n2 c2 ocols)(A5:Option Addr)(n5 c5:Nat)(zs:List Zone)(hz:In w A5 n5 c5 zs)(hb0:n<=4096)(hb1:n'<=4096)(hb2:n1<=4096)(hb3:n2<=4096):
  Calls Tryz.prog 80 #[.agg (ak x A n c A' n' c' aK n'' c'').toArray,.slice A1 n1 c1,.slice A2 n2 c2,.slice A5 n5 c5] w λe w'=>e=.returned (.int .i64 (aR x cols ocols zs))/\Below w.heap.size w w':=by
 by_cases hp:jH x
 ·by_cases h4:x.kind=4
  ·have k4:(x.kind==4)=true:=by simpa using h4
   have k5:(x.kind==5)=false:=by rw[h4];rfl
   cases p0:(x.policy==0)
   ·exact Bb w x A n c hn A' n' c' hn' aK n'' c'' hq A1 n1 c1 cols hc A2 n2 c2 ocols ho A5 n5 c5 zs hz hb0 hb1 hb2 hb3 hp k4 k5 p0
   ·exact Ba w x A n c hn A' n' c' hn' aK n'' c'' hq A1 n1 c1 cols hc A2 n2 c2 ocols ho A5 n5 c5 zs hz hb0 hb1 hb2 hb3 hp k4 k5 (by rw[h4];rfl) p0
  ·by_cases h5:x.kind=5
   ·have k5:(x.kind==5)=true:=by simpa using h5
    have k4:(x.kind==4)=false:=by rw[h5];rfl
    have p0:(x.policy==0)=false:=by
     have:=hp.2;simp only[beq_eq_false_iff_ne];omega
    exact Bc w x A n c hn A' n' c' hn' aK n'' c'' hq A1 n1 c1 cols hc A2 n2 c2 ocols ho A5 n5 c5 zs hz hb0 hb1 hb2 hb3 hp k4 k5 p0
   ·exact yl w x A n c hn A' n' c' hn' aK n'' c'' hq A1 n1 c1 cols hc A2 n2 c2 ocols ho A5 n5 c5 zs hz hb0 hb1 hb2 hb3 hp h4 h5
 ·exact Ae w x A n c A' n' c' aK n'' c'' _ _ _ hp cols ocols zs
theorem Gs (w:World)(x:Chk)(A:Option Addr)(n c:Nat)(hn:In w A n c x.cols)(A':Option Addr)(n' c':Nat)(hn':In w A' n' c' x.ocols)(aK:Option Addr)(n'' c'':Nat)(hq:In w aK n'' c'' x.cond)(rn:ByteArray)(A1:Option Addr)(n1 c1:Nat)(cols:List Col)(hc:In w A1 n1 c1 cols)(Ak:Option Addr)(nk ck:Nat)(A3:Option Addr)(n3 c3:Nat)(rows:List Ent)(hr:In w A3 n3 c3 rows)(on:ByteArray)(A2:Option Addr)(n2 c2:Nat)(ocols:List Col)(ho:In w A2 n2 c2 ocols)(Al:Option Addr)(nl cl:Nat)(A4:Option Addr)(n4 c4:Nat)(ag:List Ent)(hor:In w A4 n4 c4 ag)(A5:Option Addr)(n5 c5:Nat)(zs:List Zone)(hz:In w A5 n5 c5 zs)(hb0:n<=4096)(hb1:n'<=4096)(hb2:n1<=4096)(hb3:n2<=4096):
  Calls Tryz.prog 51 #[.agg (ak x A n c A' n' c' aK n'' c'').toArray,.agg #[.string rn,.slice A1 n1 c1,.slice Ak nk ck,.slice A3 n3 c3],.agg #[.string on,.slice A2 n2 c2,.slice Al nl cl,.slice A4 n4 c4],.slice A5 n5 c5] w
   λe w'=>e=.returned (.int .i64 (bf x cols ocols rows ag zs))/\Below w.heap.size w w':=by
 have HV:=hide λW hn hn' hq hc ho hz=>Af W x A n c hn A' n' c' hn' aK n'' c'' hq A1 n1 c1 cols hc A2 n2 c2 ocols ho A5 n5 c5 zs hz hb0 hb1 hb2 hb3;have HU:=hide λW=>tu W x A n c A' n' c' aK n'' c'';have HT1:=hide λW hc hr=>BZ W rn A1 n1 c1 cols hc Ak nk ck A3 n3 c3 rows hr;have HT2:=hide λW hc hr=>BZ W on A2 n2 c2 ocols hc Al nl cl A4 n4 c4 ag hr;have HD:=hide (show bf x cols ocols rows ag zs=if aR x cols ocols zs≠0 then aR x cols ocols zs else if dh cols rows≠0 then dh cols rows else if cK x.kind=true then dh ocols ag else 0 from rfl);obtain ⟨R,hR⟩: ∃R,bf x cols ocols rows ag zs=R:=⟨_,rfl⟩;obtain ⟨E1,hE1⟩: ∃R,aR x cols ocols zs=R:=⟨_,rfl⟩;obtain ⟨E2,hE2⟩: ∃R,dh cols rows=R:=⟨_,rfl⟩;obtain ⟨E3,mQ⟩: ∃R,dh ocols ag=R:=⟨_,rfl⟩;obtain ⟨U,hU⟩: ∃R,cK x.kind=R:=⟨_,rfl⟩;rw[hR,hE1,hE2,mQ,hU]at HD;rw[hE1]at HV;rw[hE2]at HT1;rw[mQ]at HT2;rw[hU]at HU;rw[hR];clear hR hE1 hE2 mQ hU;simp only[ak]at HV HU⊢;go_enter Tryz.func51,Tryz.ntmps51;have HN:=hide hn;clear hn;have eY:=hide hn';clear hn';have HQ:=hide hq;clear hq;have HC:=hide hc;clear hc;have HO:=hide ho;clear ho;have HZ:=hide hz;clear hz;have HR:=hide hr;clear hr;have qf:=hide hor;clear hor;go_wp2_with fail;obtain ⟨W3,hW3,gN,dF,AU⟩:=eu w x A n c A' n' c' aK n'' c'' rn A1 n1 c1 Ak nk ck A3 n3 c3 on A2 n2 c2 Al nl cl A4 n4 c4;rw[<-hW3];clear hW3;have mG:=hide dF;clear dF;obtain ⟨⟨LR,g0,g1,g2,g3,g4,g5,g6,g7,g8,g9,g10,g11,g12,g13⟩,⟨L2,r0,r1,r2,r3⟩,L3,s0,s1,s2,s3⟩:=AU.out _ (Below.refl _ _);go_wp2_with fail;refine (HV.out _ (HN.out.below mG.out) (eY.out.below mG.out) (HQ.out.below mG.out) (HC.out.below mG.out) (HO.out.below mG.out) (HZ.out.below mG.out)).mono ?_;rintro e w23 ⟨rfl,Mg⟩;have iA:=hide Mg;clear Mg;by_cases h1:E1=0;rotate_left
 ·have q1:(E1 != 0)=true:=by simpa using h1
  obtain rfl:R=E1:=by rw[HD.out,if_pos h1]
  obtain ⟨⟨LR,g0,g1,g2,g3,g4,g5,g6,g7,g8,g9,g10,g11,g12,g13⟩,⟨L2,r0,r1,r2,r3⟩,L3,s0,s1,s2,s3⟩:=AU.out _ iA.out;go_wp2;all_goals (try (exfalso;go_light;simp_all;done));go_ret;exact ⟨rfl,(aa mG.out iA.out)⟩
 subst h1;obtain ⟨⟨LR,g0,g1,g2,g3,g4,g5,g6,g7,g8,g9,g10,g11,g12,g13⟩,⟨L2,r0,r1,r2,r3⟩,L3,s0,s1,s2,s3⟩:=AU.out _ iA.out;go_wp2_with fail;have uj:=hide (aa mG.out iA.out);refine (HT1.out _ (HC.out.below uj.out) (HR.out.below uj.out)).mono ?_;rintro e Ye ⟨rfl,EA⟩;have mf:=hide (aa iA.out EA);clear EA;by_cases h2:E2=0;rotate_left
 ·have q2:(E2 != 0)=true:=by simpa using h2
  obtain rfl:R=E2:=by rw[HD.out];simp[h2]
  obtain ⟨⟨LR,g0,g1,g2,g3,g4,g5,g6,g7,g8,g9,g10,g11,g12,g13⟩,⟨L2,r0,r1,r2,r3⟩,L3,s0,s1,s2,s3⟩:=AU.out _ mf.out;go_wp2;all_goals (try (exfalso;go_light;simp_all;done));go_ret;exact ⟨rfl,(aa mG.out mf.out)⟩
 subst h2;obtain ⟨⟨LR,g0,g1,g2,g3,g4,g5,g6,g7,g8,g9,g10,g11,g12,g13⟩,⟨L2,r0,r1,r2,r3⟩,L3,s0,s1,s2,s3⟩:=AU.out _ mf.out;go_wp2_with fail;refine (HU.out _).mono ?_;rintro e w28 ⟨rfl,Mh⟩;have jA:=hide (aa mf.out Mh);clear Mh;cases U
 ·obtain rfl:R=0:=by rw[HD.out];simp
  obtain ⟨⟨LR,g0,g1,g2,g3,g4,g5,g6,g7,g8,g9,g10,g11,g12,g13⟩,⟨L2,r0,r1,r2,r3⟩,L3,s0,s1,s2,s3⟩:=AU.out _ jA.out;go_wp2;all_goals (try (exfalso;go_light;simp_all;done));go_ret;exact ⟨rfl,(aa mG.out jA.out)⟩
 ·obtain rfl:R=E3:=by rw[HD.out];simp
  obtain ⟨⟨LR,g0,g1,g2,g3,g4,g5,g6,g7,g8,g9,g10,g11,g12,g13⟩,⟨L2,r0,r1,r2,r3⟩,L3,s0,s1,s2,s3⟩:=AU.out _ jA.out;go_wp2_with fail;have uI:=hide (aa mG.out jA.out);refine (HT2.out _ (HO.out.below uI.out) (qf.out.below uI.out)).mono ?_;rintro e w30 ⟨rfl,Mi⟩;have wG:=hide (aa jA.out Mi);clear Mi;obtain ⟨⟨LR,g0,g1,g2,g3,g4,g5,g6,g7,g8,g9,g10,g11,g12,g13⟩,⟨L2,r0,r1,r2,r3⟩,L3,s0,s1,s2,s3⟩:=AU.out _ wG.out;go_wp2;all_goals (try (exfalso;go_light;simp_all;done));go_ret;exact ⟨rfl,(aa mG.out wG.out)⟩
end Go.Proofs.YtggejcekmehocaaGreatDoor
