/-
  warehouseref28.Validate: checks with conditions; whole. (Printed by gen_valr.py.)
-/
import Derived.Test.YtopjjlmfilgngaaGreatDoorGba
import Derived.Test.YtopjjlmfilgngaaGreatDoorGai
namespace Go.Proofs.YtopjjlmfilgngaaGreatDoor
set_option maxHeartbeats 4000000
set_option maxRecDepth 100000
open Go.RowKit
set_option linter.unusedSimpArgs false
set_option linter.unusedVariables false
def ed (x:Chk)(k:Nat):Bool:=if k=0 then (dh x.ln x.ld&&dh x.mn x.md) else if k=1 then dh x.mn x.md else true
theorem zV (n d:Int):(decide (n<0)=true/\dh n d=false)\/(decide (n<0)=false/\decide (1073741824<n)=true/\dh n d=false)\/(decide (n<0)=false/\decide (1073741824<n)=false/\decide (d<1)=true/\dh n d=false)
  \/(decide (n<0)=false/\decide (1073741824<n)=false/\decide (d<1)=false/\decide (1073741824<d)=true/\dh n d=false)\/(decide (n<0)=false/\decide (1073741824<n)=false/\decide (d<1)=false/\decide (1073741824<d)=false/\dh n d=true):=by
 by_cases a1:n<0
 ·exact .inl ⟨by simpa using a1,by rw[dh];simp;omega⟩
 by_cases a2:1073741824<n
 ·exact .inr (.inl ⟨by simpa using a1,by simpa using a2,by rw[dh];simp;omega⟩)
 by_cases a3:d<1
 ·exact .inr (.inr (.inl ⟨by simpa using a1,by simpa using a2,by simpa using a3,by rw[dh];simp;omega⟩))
 by_cases a4:1073741824<d
 ·exact .inr (.inr (.inr (.inl ⟨by simpa using a1,by simpa using a2,by simpa using a3,by simpa using a4,by rw[dh];simp;omega⟩)))
 ·exact .inr (.inr (.inr (.inr ⟨by simpa using a1,by simpa using a2,by simpa using a3,by simpa using a4,by rw[dh];simp;omega⟩)))
theorem BC (w:World)(x:Chk)(A:Option Addr)(n c:Nat)(hn:In w A n c x.cols)(A':Option Addr)(n' c':Nat)(hn':In w A' n' c' x.ocols)(aX:Option Addr)(n'' c'':Nat)(hq:In w aX n'' c'' x.cond)(A1:Option Addr)(n1 c1:Nat)(cols:List Col)(hc:In w A1 n1 c1 cols)(A2:Option Addr)(n2 c2:Nat)(ocols:List Col)(ho:In w A2 n2 c2 ocols)(A5:Option Addr)(n5 c5:Nat)(zs:List Zone)(hz:In w A5 n5 c5 zs)(hb0:n<=4096)(hb1:n'<=4096)(hb2:n1<=4096)(hb3:n2<=4096)(hp:jJ x)(k4:(x.kind==4)=true)(k5:(x.kind==5)=false)(k6:(x.kind==6)=false)(p0:(x.policy==0)=true):
  Calls Tryz.prog 65 #[.agg (aB x A n c A' n' c' aX n'' c'').toArray,.slice A1 n1 c1,.slice A2 n2 c2,.slice A5 n5 c5] w λe w'=>e=.returned (.int .i64 (aN x cols ocols zs))/\Below w.heap.size w w':=by
 have H5:=hide (by simpa using k5:¬x.kind=5);have HD0:=hide (show aN x cols ocols zs=if aC cols≠0 then aC cols else if gu x cols zs≠0 then gu x cols zs else if x.kind=5/\(dh x.ln x.ld&&dh x.mn x.md)=false then 1 else 0 from by
  rw[ib x cols ocols zs hp.1 hp.2];have:jg x.kind=true:=by rw[jg,k4,k5];rfl
  rw[this];simp)
 rw[gu]at HD0;have Lx:=mZ hc;have Ja:=hide λW hq hc hz=>vF W aX n'' c'' x.cond hq A1 n1 c1 cols hc Lx A5 n5 c5 zs hz;obtain ⟨R,hR⟩: ∃R,aN x cols ocols zs=R:=⟨_,rfl⟩;obtain ⟨T,hT⟩: ∃T,bU x.cond cols zs=T:=⟨_,rfl⟩;obtain ⟨C1,vN⟩: ∃CE,aC cols=CE:=⟨_,rfl⟩;rw[hR,hT,vN]at HD0;rw[hT]at Ja;rw[hR];have Mg:=hide vN;clear hR hT vN Lx;obtain ⟨te,tk,tn⟩:=T;simp only at HD0 Ja;obtain ⟨d1,d2,d3,d4⟩:=hp.dec;clear hp;simp only[aB];go_enter Tryz.func65,Tryz.ntmps65;have HQ:=hide hq;clear hq;have HC:=hide hc;clear hc;have HZ:=hide hz;clear hz;go_wp2_with fail;obtain ⟨W1,hW1⟩: ∃W,W=w.alloc (.cells #[.string x.name,.string x.table,.int .i64 x.kind,.slice A n c,.string x.other,.slice A' n' c',.int .i64 x.low,.int .i64 x.high,.slice aX n'' c'',.int .i64 x.ln,.int .i64 x.ld,.int .i64 x.mn,.int .i64 x.md,.int .i64 x.policy] 48):=⟨_,rfl⟩;obtain ⟨hbW1,fZ,g0,g1,g2,g3,g4,g5,g6,g7,g8,g9,g10,g11,g12,g13⟩:=bT hW1 rfl;rw[<-hW1];clear hW1;have lN:=hide hbW1;clear hbW1;have LR:=lt_of_cell g0;go_wp2_with fail;refine (jF _ A1 n1 c1 cols (HC.out.below lN.out)).mono ?_;rintro e w6 ⟨rfl,rfl⟩;rw[Mg.out];by_cases hc1:C1=0;rotate_left
 ·have q0:(C1 != 0)=true:=by simpa using hc1
  obtain rfl:R=C1:=by rw[HD0.out,if_pos hc1]
  go_wp2;all_goals (try (exfalso;go_light;simp_all;done));go_ret;exact ⟨rfl,lN.out⟩
 subst hc1;go_wp2_with fail;refine (Ja.out _ (HQ.out.below lN.out) (HC.out.below lN.out) (HZ.out.below lN.out)).mono ?_;rintro e w2 ⟨rfl,hb2⟩;have o3:=mr g0 g1 g2 g3 g4 g5 g6 g7 g8 g9 g10 g11 g12 g13;have lW:=hide hb2;clear hb2;by_cases ht:te=0;rotate_left
 ·have q0:(te != 0)=true:=by simpa using ht
  obtain rfl:R=te:=by rw[HD0.out];simp[ht]
  obtain ⟨LR,g0,g1,g2,g3,g4,g5,g6,g7,g8,g9,g10,g11,g12,g13⟩:=o3.out _ lW.out;go_wp2;all_goals (try (exfalso;go_light;simp_all;done));go_ret;exact ⟨rfl,(aa lN.out lW.out)⟩
 subst ht;by_cases hk1:tk=1
 ·subst hk1;have q1:((1:Int) != 1)=false:=by decide
  obtain rfl:R=0:=by rw[HD0.out];simp[H5.out]
  obtain ⟨LR,g0,g1,g2,g3,g4,g5,g6,g7,g8,g9,g10,g11,g12,g13⟩:=o3.out _ lW.out;go_wp2;all_goals (try (exfalso;go_light;simp_all;done));go_ret;exact ⟨rfl,(aa lN.out lW.out)⟩
 ·have q1:(tk != 1)=true:=by simpa using hk1
  by_cases hk0:tk=0
  ·subst hk0;have q2:((0:Int) != 0)=false:=by decide
   obtain rfl:R=0:=by rw[HD0.out];simp[H5.out]
   obtain ⟨LR,g0,g1,g2,g3,g4,g5,g6,g7,g8,g9,g10,g11,g12,g13⟩:=o3.out _ lW.out;go_wp2;all_goals (try (exfalso;go_light;simp_all;done));go_ret;exact ⟨rfl,(aa lN.out lW.out)⟩
  ·have q2:(tk != 0)=true:=by simpa using hk0
   obtain rfl:R=7:=by rw[HD0.out];simp[hk1,hk0]
   obtain ⟨LR,g0,g1,g2,g3,g4,g5,g6,g7,g8,g9,g10,g11,g12,g13⟩:=o3.out _ lW.out;go_wp2;all_goals (try (exfalso;go_light;simp_all;done));go_ret;exact ⟨rfl,(aa lN.out lW.out)⟩
theorem BD (w:World)(x:Chk)(A:Option Addr)(n c:Nat)(hn:In w A n c x.cols)(A':Option Addr)(n' c':Nat)(hn':In w A' n' c' x.ocols)(aX:Option Addr)(n'' c'':Nat)(hq:In w aX n'' c'' x.cond)(A1:Option Addr)(n1 c1:Nat)(cols:List Col)(hc:In w A1 n1 c1 cols)(A2:Option Addr)(n2 c2:Nat)(ocols:List Col)(ho:In w A2 n2 c2 ocols)(A5:Option Addr)(n5 c5:Nat)(zs:List Zone)(hz:In w A5 n5 c5 zs)(hb0:n<=4096)(hb1:n'<=4096)(hb2:n1<=4096)(hb3:n2<=4096)(hp:jJ x)(k4:(x.kind==4)=true)(k5:(x.kind==5)=false)(p0:(x.policy==0)=false):
  Calls Tryz.prog 65 #[.agg (aB x A n c A' n' c' aX n'' c'').toArray,.slice A1 n1 c1,.slice A2 n2 c2,.slice A5 n5 c5] w λe w'=>e=.returned (.int .i64 (aN x cols ocols zs))/\Below w.heap.size w w':=by
 have H5:=hide (by simpa using k5:¬x.kind=5);have HD0:=hide (show aN x cols ocols zs=if aC cols≠0 then aC cols else if gu x cols zs≠0 then gu x cols zs else if x.kind=5/\(dh x.ln x.ld&&dh x.mn x.md)=false then 1 else 0 from by
  rw[ib x cols ocols zs hp.1 hp.2];have:jg x.kind=true:=by rw[jg,k4,k5];rfl
  rw[this];simp)
 rw[gu]at HD0;have Lx:=mZ hc;have Ja:=hide λW hq hc hz=>vF W aX n'' c'' x.cond hq A1 n1 c1 cols hc Lx A5 n5 c5 zs hz;obtain ⟨R,hR⟩: ∃R,aN x cols ocols zs=R:=⟨_,rfl⟩;obtain ⟨T,hT⟩: ∃T,bU x.cond cols zs=T:=⟨_,rfl⟩;obtain ⟨C1,vN⟩: ∃CE,aC cols=CE:=⟨_,rfl⟩;rw[hR,hT,vN]at HD0;rw[hT]at Ja;rw[hR];have Mg:=hide vN;clear hR hT vN Lx;obtain ⟨te,tk,tn⟩:=T;simp only at HD0 Ja;obtain ⟨d1,d2,d3,d4⟩:=hp.dec;clear hp;simp only[aB];go_enter Tryz.func65,Tryz.ntmps65;have HQ:=hide hq;clear hq;have HC:=hide hc;clear hc;have HZ:=hide hz;clear hz;go_wp2_with fail;obtain ⟨W1,hW1⟩: ∃W,W=w.alloc (.cells #[.string x.name,.string x.table,.int .i64 x.kind,.slice A n c,.string x.other,.slice A' n' c',.int .i64 x.low,.int .i64 x.high,.slice aX n'' c'',.int .i64 x.ln,.int .i64 x.ld,.int .i64 x.mn,.int .i64 x.md,.int .i64 x.policy] 48):=⟨_,rfl⟩;obtain ⟨hbW1,fZ,g0,g1,g2,g3,g4,g5,g6,g7,g8,g9,g10,g11,g12,g13⟩:=bT hW1 rfl;rw[<-hW1];clear hW1;have kL:=hide hbW1;clear hbW1;have LR:=lt_of_cell g0;go_wp2_with fail;refine (jF _ A1 n1 c1 cols (HC.out.below kL.out)).mono ?_;rintro e w6 ⟨rfl,rfl⟩;rw[Mg.out];by_cases hc1:C1=0;rotate_left
 ·have q0:(C1 != 0)=true:=by simpa using hc1
  obtain rfl:R=C1:=by rw[HD0.out,if_pos hc1]
  go_wp2;all_goals (try (exfalso;go_light;simp_all;done));go_ret;exact ⟨rfl,kL.out⟩
 subst hc1;go_wp2_with fail;refine (Ja.out _ (HQ.out.below kL.out) (HC.out.below kL.out) (HZ.out.below kL.out)).mono ?_;rintro e w6 ⟨rfl,hb6⟩;have o7:=mr g0 g1 g2 g3 g4 g5 g6 g7 g8 g9 g10 g11 g12 g13;have qH:=hide hb6;clear hb6;by_cases ht:te=0;rotate_left
 ·have q0:(te != 0)=true:=by simpa using ht
  obtain rfl:R=te:=by rw[HD0.out];simp[ht]
  obtain ⟨LR,g0,g1,g2,g3,g4,g5,g6,g7,g8,g9,g10,g11,g12,g13⟩:=o7.out _ qH.out;go_wp2;all_goals (try (exfalso;go_light;simp_all;done));go_ret;exact ⟨rfl,(aa kL.out qH.out)⟩
 subst ht;by_cases hk1:tk=1
 ·subst hk1;have q1:((1:Int) != 1)=false:=by decide
  obtain rfl:R=0:=by rw[HD0.out];simp[H5.out]
  obtain ⟨LR,g0,g1,g2,g3,g4,g5,g6,g7,g8,g9,g10,g11,g12,g13⟩:=o7.out _ qH.out;go_wp2;all_goals (try (exfalso;go_light;simp_all;done));go_ret;exact ⟨rfl,(aa kL.out qH.out)⟩
 ·have q1:(tk != 1)=true:=by simpa using hk1
  by_cases hk0:tk=0
  ·subst hk0;have q2:((0:Int) != 0)=false:=by decide
   obtain rfl:R=0:=by rw[HD0.out];simp[H5.out]
   obtain ⟨LR,g0,g1,g2,g3,g4,g5,g6,g7,g8,g9,g10,g11,g12,g13⟩:=o7.out _ qH.out;go_wp2;all_goals (try (exfalso;go_light;simp_all;done));go_ret;exact ⟨rfl,(aa kL.out qH.out)⟩
  ·have q2:(tk != 0)=true:=by simpa using hk0
   obtain rfl:R=7:=by rw[HD0.out];simp[hk1,hk0]
   obtain ⟨LR,g0,g1,g2,g3,g4,g5,g6,g7,g8,g9,g10,g11,g12,g13⟩:=o7.out _ qH.out;go_wp2;all_goals (try (exfalso;go_light;simp_all;done));go_ret;exact ⟨rfl,(aa kL.out qH.out)⟩
theorem BF (w:World)(x:Chk)(A:Option Addr)(n c:Nat)(hn:In w A n c x.cols)(A':Option Addr)(n' c':Nat)(hn':In w A' n' c' x.ocols)(aX:Option Addr)(n'' c'':Nat)(hq:In w aX n'' c'' x.cond)(A1:Option Addr)(n1 c1:Nat)(cols:List Col)(hc:In w A1 n1 c1 cols)(A2:Option Addr)(n2 c2:Nat)(ocols:List Col)(ho:In w A2 n2 c2 ocols)(A5:Option Addr)(n5 c5:Nat)(zs:List Zone)(hz:In w A5 n5 c5 zs)(hb0:n<=4096)(hb1:n'<=4096)(hb2:n1<=4096)(hb3:n2<=4096)(hp:jJ x)(k4:(x.kind==4)=false)(k5:(x.kind==5)=true)(p0:(x.policy==0)=false):
  Calls Tryz.prog 65 #[.agg (aB x A n c A' n' c' aX n'' c'').toArray,.slice A1 n1 c1,.slice A2 n2 c2,.slice A5 n5 c5] w λe w'=>e=.returned (.int .i64 (aN x cols ocols zs))/\Below w.heap.size w w':=by
 have H5:=hide (by simpa using k5:x.kind=5);have HD0:=hide (show aN x cols ocols zs=if aC cols≠0 then aC cols else if gu x cols zs≠0 then gu x cols zs else if x.kind=5/\(dh x.ln x.ld&&dh x.mn x.md)=false then 1 else 0 from by
  rw[ib x cols ocols zs hp.1 hp.2];have:jg x.kind=true:=by rw[jg,k4,k5];rfl
  rw[this];simp)
 rw[gu]at HD0;have Lx:=mZ hc;have Ja:=hide λW hq hc hz=>vF W aX n'' c'' x.cond hq A1 n1 c1 cols hc Lx A5 n5 c5 zs hz;obtain ⟨R,hR⟩: ∃R,aN x cols ocols zs=R:=⟨_,rfl⟩;obtain ⟨T,hT⟩: ∃T,bU x.cond cols zs=T:=⟨_,rfl⟩;obtain ⟨C1,vN⟩: ∃CE,aC cols=CE:=⟨_,rfl⟩;rw[hR,hT,vN]at HD0;rw[hT]at Ja;rw[hR];have Mg:=hide vN;clear hR hT vN Lx;obtain ⟨te,tk,tn⟩:=T;simp only at HD0 Ja;obtain ⟨d1,d2,d3,d4⟩:=hp.dec;clear hp;simp only[aB];go_enter Tryz.func65,Tryz.ntmps65;have HQ:=hide hq;clear hq;have HC:=hide hc;clear hc;have HZ:=hide hz;clear hz;go_wp2_with fail;obtain ⟨W1,hW1⟩: ∃W,W=w.alloc (.cells #[.string x.name,.string x.table,.int .i64 x.kind,.slice A n c,.string x.other,.slice A' n' c',.int .i64 x.low,.int .i64 x.high,.slice aX n'' c'',.int .i64 x.ln,.int .i64 x.ld,.int .i64 x.mn,.int .i64 x.md,.int .i64 x.policy] 48):=⟨_,rfl⟩;obtain ⟨hbW1,fZ,g0,g1,g2,g3,g4,g5,g6,g7,g8,g9,g10,g11,g12,g13⟩:=bT hW1 rfl;rw[<-hW1];clear hW1;have Eo:=hide hbW1;clear hbW1;have LR:=lt_of_cell g0;go_wp2_with fail;refine (jF _ A1 n1 c1 cols (HC.out.below Eo.out)).mono ?_;rintro e w6 ⟨rfl,rfl⟩;rw[Mg.out];by_cases hc1:C1=0;rotate_left
 ·have q0:(C1 != 0)=true:=by simpa using hc1
  obtain rfl:R=C1:=by rw[HD0.out,if_pos hc1]
  go_wp2;all_goals (try (exfalso;go_light;simp_all;done));go_ret;exact ⟨rfl,Eo.out⟩
 subst hc1;go_wp2_with fail;refine (Ja.out _ (HQ.out.below Eo.out) (HC.out.below Eo.out) (HZ.out.below Eo.out)).mono ?_;rintro e w10 ⟨rfl,Bn⟩;have DZ:=mr g0 g1 g2 g3 g4 g5 g6 g7 g8 g9 g10 g11 g12 g13;have jD:=hide Bn;clear Bn;by_cases ht:te=0;rotate_left
 ·have q0:(te != 0)=true:=by simpa using ht
  obtain rfl:R=te:=by rw[HD0.out];simp[ht]
  obtain ⟨LR,g0,g1,g2,g3,g4,g5,g6,g7,g8,g9,g10,g11,g12,g13⟩:=DZ.out _ jD.out;go_wp2;all_goals (try (exfalso;go_light;simp_all;done));go_ret;exact ⟨rfl,(aa Eo.out jD.out)⟩
 subst ht;by_cases hk1:tk=1
 ·subst hk1;have q1:((1:Int) != 1)=false:=by decide
  have HRR:Hid (R=if ed x 0=false then 1 else 0):=hide (by rw[HD0.out,ed];simp[H5.out]);clear HD0;obtain ⟨W3,rfl⟩: ∃W,W=w10:=⟨_,rfl⟩;obtain ⟨LR,g0,g1,g2,g3,g4,g5,g6,g7,g8,g9,g10,g11,g12,g13⟩:=DZ.out _ jD.out;go_upto_region 15 with (fail);go_wp2_with fail;obtain ⟨W4,q9⟩: ∃W,W=W3.alloc (.cells #[.int .i64 x.ln,.int .i64 x.ld,.int .i64 x.mn,.int .i64 x.md] 46):=⟨_,rfl⟩;obtain ⟨lF,tT,y0,y1,y2,y3⟩:=kr q9 rfl;rw[<-q9];clear q9;have qN:=hide lF;clear lF;have L4:=lt_of_cell y0;have qM:=hide (aa jD.out qN.out);obtain ⟨LR,g0,g1,g2,g3,g4,g5,g6,g7,g8,g9,g10,g11,g12,g13⟩:=DZ.out _ qM.out;go_loopw [92] (λi wr=> ∃k:Nat,k<=2/\i=.int .i64 k/\ed x 0=ed x k/\Below W4.heap.size W4 wr) (λi _=>2-(RowKit.intOf i).toNat)
  case atStart=>exact ⟨0,by omega,rfl,rfl,Below.refl _ _⟩
  case round=>
   obtain ⟨k,hk,rfl,heq,hb⟩:=hrel;have HE:=hide heq;clear heq;have RN:=Cw (mr g0 g1 g2 g3 g4 g5 g6 g7 g8 g9 g10 g11 g12 g13) (sP y0 y1 y2 y3);have lQ:=hide hb;clear hb;have CY:=hide lQ.out;have jk:=hide (aa (aa (aa Eo.out jD.out) qN.out) lQ.out);by_cases hlt:k<2
   ·have hkk: ∃rn rd,wr.cell? ⟨W3.heap.size,k*2,none⟩=some (.int .i64 rn)/\wr.cell? ⟨W3.heap.size,k*2+1,none⟩=some (.int .i64 rd)/\Hid (ed x k=(dh rn rd&&ed x (k+1))):=by
     rcases (by omega:k=0\/k=1) with rfl|rfl
     ·obtain ⟨⟨LR,g0,g1,g2,g3,g4,g5,g6,g7,g8,g9,g10,g11,g12,g13⟩,L4,y0,y1,y2,y3⟩:=RN.out _ lQ.out;exact ⟨x.ln,x.ld,y0,y1,hide (by simp[ed])⟩
     ·obtain ⟨⟨LR,g0,g1,g2,g3,g4,g5,g6,g7,g8,g9,g10,g11,g12,g13⟩,L4,y0,y1,y2,y3⟩:=RN.out _ lQ.out;exact ⟨x.mn,x.md,y2,y3,hide (by simp[ed])⟩
    obtain ⟨rn,rd,e0,e1,EE⟩:=hkk;have k0:(0:Int)<=(k:Int):=by omega
    have k1:(k:Int)<2:=by omega
    obtain ⟨⟨LR,g0,g1,g2,g3,g4,g5,g6,g7,g8,g9,g10,g11,g12,g13⟩,L4,y0,y1,y2,y3⟩:=RN.out _ lQ.out;clear y0 y1 y2 y3;have Py:=hide (aa jk.out (ae (o:=.cells #[.int .i64 rn,.int .i64 rd] 46)));have YH:=hide (aa CY.out (ae (o:=.cells #[.int .i64 rn,.int .i64 rd] 46)));rcases zV rn rd with ⟨a1,hr⟩|⟨a1,a2,hr⟩|⟨a1,a2,a3,hr⟩|⟨a1,a2,a3,a4,hr⟩|⟨a1,a2,a3,a4,hr⟩
    ·obtain rfl:R=1:=by rw[HRR.out,HE.out,EE.out,hr];simp
     clear hr;go_wp2;all_goals (try (exfalso;go_light;simp_all;done));go_ret;exact ⟨rfl,Py.out⟩
    ·obtain rfl:R=1:=by rw[HRR.out,HE.out,EE.out,hr];simp
     clear hr;go_wp2;all_goals (try (exfalso;go_light;simp_all;done));go_ret;exact ⟨rfl,Py.out⟩
    ·obtain rfl:R=1:=by rw[HRR.out,HE.out,EE.out,hr];simp
     clear hr;go_wp2;all_goals (try (exfalso;go_light;simp_all;done));go_ret;exact ⟨rfl,Py.out⟩
    ·obtain rfl:R=1:=by rw[HRR.out,HE.out,EE.out,hr];simp
     clear hr;go_wp2;all_goals (try (exfalso;go_light;simp_all;done));go_ret;exact ⟨rfl,Py.out⟩
    ·have HN:Hid (ed x 0=ed x (k+1)):=hide (by rw[HE.out,EE.out,hr];simp);clear hr;go_wp2;all_goals (try (exfalso;go_light;simp_all;done));go_roundw
     case rel=>exact ⟨k+1,by omega,by go_num,HN.out,YH.out⟩
     case measure=>simp[RowKit.intOf];omega
   ·obtain rfl:k=2:=by omega
    obtain rfl:R=0:=by rw[HRR.out,HE.out];simp[ed]
    obtain ⟨⟨LR,g0,g1,g2,g3,g4,g5,g6,g7,g8,g9,g10,g11,g12,g13⟩,L4,y0,y1,y2,y3⟩:=RN.out _ lQ.out;go_wp2;all_goals (try (exfalso;go_light;simp_all;done));go_ret;exact ⟨rfl,jk.out⟩
 ·have q1:(tk != 1)=true:=by simpa using hk1
  by_cases hk0:tk=0
  ·subst hk0;have q2:((0:Int) != 0)=false:=by decide
   have HRR:Hid (R=if ed x 0=false then 1 else 0):=hide (by rw[HD0.out,ed];simp[H5.out]);clear HD0;obtain ⟨W3,rfl⟩: ∃W,W=w10:=⟨_,rfl⟩;obtain ⟨LR,g0,g1,g2,g3,g4,g5,g6,g7,g8,g9,g10,g11,g12,g13⟩:=DZ.out _ jD.out;go_upto_region 15 with (fail);go_wp2_with fail;obtain ⟨W4,q9⟩: ∃W,W=W3.alloc (.cells #[.int .i64 x.ln,.int .i64 x.ld,.int .i64 x.mn,.int .i64 x.md] 46):=⟨_,rfl⟩;obtain ⟨lF,tT,y0,y1,y2,y3⟩:=kr q9 rfl;rw[<-q9];clear q9;have j5:=hide lF;clear lF;have L4:=lt_of_cell y0;have LJ:=hide (aa jD.out j5.out);obtain ⟨LR,g0,g1,g2,g3,g4,g5,g6,g7,g8,g9,g10,g11,g12,g13⟩:=DZ.out _ LJ.out;go_loopw [92] (λi wr=> ∃k:Nat,k<=2/\i=.int .i64 k/\ed x 0=ed x k/\Below W4.heap.size W4 wr) (λi _=>2-(RowKit.intOf i).toNat)
   case atStart=>exact ⟨0,by omega,rfl,rfl,Below.refl _ _⟩
   case round=>
    obtain ⟨k,hk,rfl,heq,hb⟩:=hrel;have HE:=hide heq;clear heq;have RO:=Cw (mr g0 g1 g2 g3 g4 g5 g6 g7 g8 g9 g10 g11 g12 g13) (sP y0 y1 y2 y3);have jE:=hide hb;clear hb;have CY:=hide jE.out;have jk:=hide (aa (aa (aa Eo.out jD.out) j5.out) jE.out);by_cases hlt:k<2
    ·have hkk: ∃rn rd,wr.cell? ⟨W3.heap.size,k*2,none⟩=some (.int .i64 rn)/\wr.cell? ⟨W3.heap.size,k*2+1,none⟩=some (.int .i64 rd)/\Hid (ed x k=(dh rn rd&&ed x (k+1))):=by
      rcases (by omega:k=0\/k=1) with rfl|rfl
      ·obtain ⟨⟨LR,g0,g1,g2,g3,g4,g5,g6,g7,g8,g9,g10,g11,g12,g13⟩,L4,y0,y1,y2,y3⟩:=RO.out _ jE.out;exact ⟨x.ln,x.ld,y0,y1,hide (by simp[ed])⟩
      ·obtain ⟨⟨LR,g0,g1,g2,g3,g4,g5,g6,g7,g8,g9,g10,g11,g12,g13⟩,L4,y0,y1,y2,y3⟩:=RO.out _ jE.out;exact ⟨x.mn,x.md,y2,y3,hide (by simp[ed])⟩
     obtain ⟨rn,rd,e0,e1,EE⟩:=hkk;have k0:(0:Int)<=(k:Int):=by omega
     have k1:(k:Int)<2:=by omega
     obtain ⟨⟨LR,g0,g1,g2,g3,g4,g5,g6,g7,g8,g9,g10,g11,g12,g13⟩,L4,y0,y1,y2,y3⟩:=RO.out _ jE.out;clear y0 y1 y2 y3;have Py:=hide (aa jk.out (ae (o:=.cells #[.int .i64 rn,.int .i64 rd] 46)));have YH:=hide (aa CY.out (ae (o:=.cells #[.int .i64 rn,.int .i64 rd] 46)));rcases zV rn rd with ⟨a1,hr⟩|⟨a1,a2,hr⟩|⟨a1,a2,a3,hr⟩|⟨a1,a2,a3,a4,hr⟩|⟨a1,a2,a3,a4,hr⟩
     ·obtain rfl:R=1:=by rw[HRR.out,HE.out,EE.out,hr];simp
      clear hr;go_wp2;all_goals (try (exfalso;go_light;simp_all;done));go_ret;exact ⟨rfl,Py.out⟩
     ·obtain rfl:R=1:=by rw[HRR.out,HE.out,EE.out,hr];simp
      clear hr;go_wp2;all_goals (try (exfalso;go_light;simp_all;done));go_ret;exact ⟨rfl,Py.out⟩
     ·obtain rfl:R=1:=by rw[HRR.out,HE.out,EE.out,hr];simp
      clear hr;go_wp2;all_goals (try (exfalso;go_light;simp_all;done));go_ret;exact ⟨rfl,Py.out⟩
     ·obtain rfl:R=1:=by rw[HRR.out,HE.out,EE.out,hr];simp
      clear hr;go_wp2;all_goals (try (exfalso;go_light;simp_all;done));go_ret;exact ⟨rfl,Py.out⟩
     ·have HN:Hid (ed x 0=ed x (k+1)):=hide (by rw[HE.out,EE.out,hr];simp);clear hr;go_wp2;all_goals (try (exfalso;go_light;simp_all;done));go_roundw
      case rel=>exact ⟨k+1,by omega,by go_num,HN.out,YH.out⟩
      case measure=>simp[RowKit.intOf];omega
    ·obtain rfl:k=2:=by omega
     obtain rfl:R=0:=by rw[HRR.out,HE.out];simp[ed]
     obtain ⟨⟨LR,g0,g1,g2,g3,g4,g5,g6,g7,g8,g9,g10,g11,g12,g13⟩,L4,y0,y1,y2,y3⟩:=RO.out _ jE.out;go_wp2;all_goals (try (exfalso;go_light;simp_all;done));go_ret;exact ⟨rfl,jk.out⟩
  ·have q2:(tk != 0)=true:=by simpa using hk0
   obtain rfl:R=7:=by rw[HD0.out];simp[hk1,hk0]
   obtain ⟨LR,g0,g1,g2,g3,g4,g5,g6,g7,g8,g9,g10,g11,g12,g13⟩:=DZ.out _ jD.out;go_wp2;all_goals (try (exfalso;go_light;simp_all;done));go_ret;exact ⟨rfl,(aa Eo.out jD.out)⟩
theorem Aj (w:World)(x:Chk)(A:Option Addr)(n c:Nat)(hn:In w A n c x.cols)(A':Option Addr)(n' c':Nat)(hn':In w A' n' c' x.ocols)(aX:Option Addr)(n'' c'':Nat)(hq:In w aX n'' c'' x.cond)(A1:Option Addr)(n1 c1:Nat)(cols:List Col)(hc:In w A1 n1 c1 cols)(A2:Option Addr)(n2 c2:Nat)(ocols:List Col)(ho:In w A2 n2 c2 ocols)(A5:Option Addr)(n5 c5:Nat)(zs:List Zone)(hz:In w A5 n5 c5 zs)(hb0:n<=4096)(hb1:n'<=4096)(hb2:n1<=4096)(hb3:n2<=4096):
  Calls Tryz.prog 65 #[.agg (aB x A n c A' n' c' aX n'' c'').toArray,.slice A1 n1 c1,.slice A2 n2 c2,.slice A5 n5 c5] w λe w'=>e=.returned (.int .i64 (aN x cols ocols zs))/\Below w.heap.size w w':=by
 by_cases hp:jJ x
 ·by_cases h4:x.kind=4
  ·have k4:(x.kind==4)=true:=by simpa using h4
   have k5:(x.kind==5)=false:=by rw[h4];rfl
   cases p0:(x.policy==0)
   ·exact BD w x A n c hn A' n' c' hn' aX n'' c'' hq A1 n1 c1 cols hc A2 n2 c2 ocols ho A5 n5 c5 zs hz hb0 hb1 hb2 hb3 hp k4 k5 p0
   ·exact BC w x A n c hn A' n' c' hn' aX n'' c'' hq A1 n1 c1 cols hc A2 n2 c2 ocols ho A5 n5 c5 zs hz hb0 hb1 hb2 hb3 hp k4 k5 (by rw[h4];rfl) p0
  ·by_cases h5:x.kind=5
   ·have k5:(x.kind==5)=true:=by simpa using h5
    have k4:(x.kind==4)=false:=by rw[h5];rfl
    have p0:(x.policy==0)=false:=by
     have:=hp.2;simp only[beq_eq_false_iff_ne];omega
    exact BF w x A n c hn A' n' c' hn' aX n'' c'' hq A1 n1 c1 cols hc A2 n2 c2 ocols ho A5 n5 c5 zs hz hb0 hb1 hb2 hb3 hp k4 k5 p0
   ·exact xQ w x A n c hn A' n' c' hn' aX n'' c'' hq A1 n1 c1 cols hc A2 n2 c2 ocols ho A5 n5 c5 zs hz hb0 hb1 hb2 hb3 hp h4 h5
 ·exact Ai w x A n c A' n' c' aX n'' c'' _ _ _ hp cols ocols zs
theorem G5 (w:World)(x:Chk)(A:Option Addr)(n c:Nat)(hn:In w A n c x.cols)(A':Option Addr)(n' c':Nat)(hn':In w A' n' c' x.ocols)(aX:Option Addr)(n'' c'':Nat)(hq:In w aX n'' c'' x.cond)(rn:ByteArray)(A1:Option Addr)(n1 c1:Nat)(cols:List Col)(hc:In w A1 n1 c1 cols)(Ak:Option Addr)(nk ck:Nat)(A3:Option Addr)(n3 c3:Nat)(rows:List Ent)(hr:In w A3 n3 c3 rows)(on:ByteArray)(A2:Option Addr)(n2 c2:Nat)(ocols:List Col)(ho:In w A2 n2 c2 ocols)(Al:Option Addr)(nl cl:Nat)(A4:Option Addr)(n4 c4:Nat)(orows:List Ent)(hor:In w A4 n4 c4 orows)(A5:Option Addr)(n5 c5:Nat)(zs:List Zone)(hz:In w A5 n5 c5 zs)(hb0:n<=4096)(hb1:n'<=4096)(hb2:n1<=4096)(hb3:n2<=4096):
  Calls Tryz.prog 40 #[.agg (aB x A n c A' n' c' aX n'' c'').toArray,.agg #[.string rn,.slice A1 n1 c1,.slice Ak nk ck,.slice A3 n3 c3],.agg #[.string on,.slice A2 n2 c2,.slice Al nl cl,.slice A4 n4 c4],.slice A5 n5 c5] w
   λe w'=>e=.returned (.int .i64 (dx x cols ocols rows orows zs))/\Below w.heap.size w w':=by
 have HV:=hide λW hn hn' hq hc ho hz=>Aj W x A n c hn A' n' c' hn' aX n'' c'' hq A1 n1 c1 cols hc A2 n2 c2 ocols ho A5 n5 c5 zs hz hb0 hb1 hb2 hb3;have HU:=hide λW=>sM W x A n c A' n' c' aX n'' c'';have HT1:=hide λW hc hr=>CP W rn A1 n1 c1 cols hc Ak nk ck A3 n3 c3 rows hr;have HT2:=hide λW hc hr=>CP W on A2 n2 c2 ocols hc Al nl cl A4 n4 c4 orows hr;have HD:=hide (show dx x cols ocols rows orows zs=if aN x cols ocols zs≠0 then aN x cols ocols zs else if bP cols rows≠0 then bP cols rows else if gH x.kind=true then bP ocols orows else 0 from rfl);obtain ⟨R,hR⟩: ∃R,dx x cols ocols rows orows zs=R:=⟨_,rfl⟩;obtain ⟨E1,hE1⟩: ∃R,aN x cols ocols zs=R:=⟨_,rfl⟩;obtain ⟨E2,hE2⟩: ∃R,bP cols rows=R:=⟨_,rfl⟩;obtain ⟨E3,nX⟩: ∃R,bP ocols orows=R:=⟨_,rfl⟩;obtain ⟨U,hU⟩: ∃R,gH x.kind=R:=⟨_,rfl⟩;rw[hR,hE1,hE2,nX,hU]at HD;rw[hE1]at HV;rw[hE2]at HT1;rw[nX]at HT2;rw[hU]at HU;rw[hR];clear hR hE1 hE2 nX hU;simp only[aB]at HV HU⊢;go_enter Tryz.func40,Tryz.ntmps40;have HN:=hide hn;clear hn;have fD:=hide hn';clear hn';have HQ:=hide hq;clear hq;have HC:=hide hc;clear hc;have HO:=hide ho;clear ho;have HZ:=hide hz;clear hz;have HR:=hide hr;clear hr;have uC:=hide hor;clear hor;go_wp2_with fail;obtain ⟨W3,hW3,kQ,fF,xM⟩:=gI w x A n c A' n' c' aX n'' c'' rn A1 n1 c1 Ak nk ck A3 n3 c3 on A2 n2 c2 Al nl cl A4 n4 c4;rw[<-hW3];clear hW3;have gZ:=hide fF;clear fF;obtain ⟨⟨LR,g0,g1,g2,g3,g4,g5,g6,g7,g8,g9,g10,g11,g12,g13⟩,⟨L2,r0,r1,r2,r3⟩,L3,s0,s1,s2,s3⟩:=xM.out _ (Below.refl _ _);go_wp2_with fail;refine (HV.out _ (HN.out.below gZ.out) (fD.out.below gZ.out) (HQ.out.below gZ.out) (HC.out.below gZ.out) (HO.out.below gZ.out) (HZ.out.below gZ.out)).mono ?_;rintro e w23 ⟨rfl,Fw⟩;have fO:=hide Fw;clear Fw;by_cases h1:E1=0;rotate_left
 ·have q1:(E1 != 0)=true:=by simpa using h1
  obtain rfl:R=E1:=by rw[HD.out,if_pos h1]
  obtain ⟨⟨LR,g0,g1,g2,g3,g4,g5,g6,g7,g8,g9,g10,g11,g12,g13⟩,⟨L2,r0,r1,r2,r3⟩,L3,s0,s1,s2,s3⟩:=xM.out _ fO.out;go_wp2;all_goals (try (exfalso;go_light;simp_all;done));go_ret;exact ⟨rfl,(aa gZ.out fO.out)⟩
 subst h1;obtain ⟨⟨LR,g0,g1,g2,g3,g4,g5,g6,g7,g8,g9,g10,g11,g12,g13⟩,⟨L2,r0,r1,r2,r3⟩,L3,s0,s1,s2,s3⟩:=xM.out _ fO.out;go_wp2_with fail;have yo:=hide (aa gZ.out fO.out);refine (HT1.out _ (HC.out.below yo.out) (HR.out.below yo.out)).mono ?_;rintro e w25 ⟨rfl,Nz⟩;have mY:=hide (aa fO.out Nz);clear Nz;by_cases h2:E2=0;rotate_left
 ·have q2:(E2 != 0)=true:=by simpa using h2
  obtain rfl:R=E2:=by rw[HD.out];simp[h2]
  obtain ⟨⟨LR,g0,g1,g2,g3,g4,g5,g6,g7,g8,g9,g10,g11,g12,g13⟩,⟨L2,r0,r1,r2,r3⟩,L3,s0,s1,s2,s3⟩:=xM.out _ mY.out;go_wp2;all_goals (try (exfalso;go_light;simp_all;done));go_ret;exact ⟨rfl,(aa gZ.out mY.out)⟩
 subst h2;obtain ⟨⟨LR,g0,g1,g2,g3,g4,g5,g6,g7,g8,g9,g10,g11,g12,g13⟩,⟨L2,r0,r1,r2,r3⟩,L3,s0,s1,s2,s3⟩:=xM.out _ mY.out;go_wp2_with fail;refine (HU.out _).mono ?_;rintro e w28 ⟨rfl,NC⟩;have MC:=hide (aa mY.out NC);clear NC;cases U
 ·obtain rfl:R=0:=by rw[HD.out];simp
  obtain ⟨⟨LR,g0,g1,g2,g3,g4,g5,g6,g7,g8,g9,g10,g11,g12,g13⟩,⟨L2,r0,r1,r2,r3⟩,L3,s0,s1,s2,s3⟩:=xM.out _ MC.out;go_wp2;all_goals (try (exfalso;go_light;simp_all;done));go_ret;exact ⟨rfl,(aa gZ.out MC.out)⟩
 ·obtain rfl:R=E3:=by rw[HD.out];simp
  obtain ⟨⟨LR,g0,g1,g2,g3,g4,g5,g6,g7,g8,g9,g10,g11,g12,g13⟩,⟨L2,r0,r1,r2,r3⟩,L3,s0,s1,s2,s3⟩:=xM.out _ MC.out;go_wp2_with fail;have JD:=hide (aa gZ.out MC.out);refine (HT2.out _ (HO.out.below JD.out) (uC.out.below JD.out)).mono ?_;rintro e w30 ⟨rfl,VZ⟩;have vT:=hide (aa MC.out VZ);clear VZ;obtain ⟨⟨LR,g0,g1,g2,g3,g4,g5,g6,g7,g8,g9,g10,g11,g12,g13⟩,⟨L2,r0,r1,r2,r3⟩,L3,s0,s1,s2,s3⟩:=xM.out _ vT.out;go_wp2;all_goals (try (exfalso;go_light;simp_all;done));go_ret;exact ⟨rfl,(aa gZ.out vT.out)⟩
end Go.Proofs.YtopjjlmfilgngaaGreatDoor
