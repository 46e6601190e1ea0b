/-
  warehouseref28.Validate: checks with conditions; whole. (Printed by gen_valr.py.)
-/
import Derived.Test.YtggejcekmehocaaGreatDoorGax
import Derived.Test.YtggejcekmehocaaGreatDoorGal
namespace Go.Proofs.YtggejcekmehocaaGreatDoor
set_option maxHeartbeats 4000000
set_option maxRecDepth 100000
open Go.RowKit
set_option linter.unusedSimpArgs false
set_option linter.unusedVariables false
def eP (x:Chk)(k:Nat):Bool:=if k=0 then (dx x.ln x.ld&&dx x.mn x.md) else if k=1 then dx x.mn x.md else true
theorem zM (n d:Int):(decide (n<0)=true/\dx n d=false)\/(decide (n<0)=false/\decide (1073741824<n)=true/\dx n d=false)\/(decide (n<0)=false/\decide (1073741824<n)=false/\decide (d<1)=true/\dx n d=false)
  \/(decide (n<0)=false/\decide (1073741824<n)=false/\decide (d<1)=false/\decide (1073741824<d)=true/\dx n d=false)\/(decide (n<0)=false/\decide (1073741824<n)=false/\decide (d<1)=false/\decide (1073741824<d)=false/\dx n d=true):=by
 by_cases a1:n<0
 ·exact .inl ⟨by simpa using a1,by rw[dx];simp;omega⟩
 by_cases a2:1073741824<n
 ·exact .inr (.inl ⟨by simpa using a1,by simpa using a2,by rw[dx];simp;omega⟩)
 by_cases a3:d<1
 ·exact .inr (.inr (.inl ⟨by simpa using a1,by simpa using a2,by simpa using a3,by rw[dx];simp;omega⟩))
 by_cases a4:1073741824<d
 ·exact .inr (.inr (.inr (.inl ⟨by simpa using a1,by simpa using a2,by simpa using a3,by simpa using a4,by rw[dx];simp;omega⟩)))
 ·exact .inr (.inr (.inr (.inr ⟨by simpa using a1,by simpa using a2,by simpa using a3,by simpa using a4,by rw[dx];simp;omega⟩)))
theorem AR (w:World)(x:Chk)(A:Option Addr)(n c:Nat)(hn:In w A n c x.cols)(A':Option Addr)(n' c':Nat)(hn':In w A' n' c' x.ocols)(aY:Option Addr)(n'' c'':Nat)(hq:In w aY n'' c'' x.cond)(A1:Option Addr)(n1 c1:Nat)(cols:List Col)(hc:In w A1 n1 c1 cols)(A2:Option Addr)(n2 c2:Nat)(ocols:List Col)(ho:In w A2 n2 c2 ocols)(A5:Option Addr)(n5 c5:Nat)(zs:List Zone)(hz:In w A5 n5 c5 zs)(hb0:n<=4096)(hb1:n'<=4096)(hb2:n1<=4096)(hb3:n2<=4096)(hp:jQ x)(k4:(x.kind==4)=true)(k5:(x.kind==5)=false)(k6:(x.kind==6)=false)(p0:(x.policy==0)=true):
  Calls Tryz.prog 80 #[.agg (ax x A n c A' n' c' aY n'' c'').toArray,.slice A1 n1 c1,.slice A2 n2 c2,.slice A5 n5 c5] w λe w'=>e=.returned (.int .i64 (bu x cols ocols zs))/\Below w.heap.size w w':=by
 have H5:=hide (by simpa using k5:¬x.kind=5)
 have HD0:=hide (show bu x cols ocols zs=if aD cols≠0 then aD cols else if gT x cols zs≠0 then gT x cols zs else if x.kind=5/\(dx x.ln x.ld&&dx x.mn x.md)=false then 1 else 0 from by
  rw[iN x cols ocols zs hp.1 hp.2]
  have:iE x.kind=true:=by rw[iE,k4,k5];rfl
  rw[this];simp)
 rw[gT]at HD0
 have J6:=nC hc
 have KF:=hide λW hq hc hz=>vo W aY n'' c'' x.cond hq A1 n1 c1 cols hc J6 A5 n5 c5 zs hz
 obtain ⟨R,hR⟩: ∃R,bu x cols ocols zs=R:=⟨_,rfl⟩
 obtain ⟨T,hT⟩: ∃T,cK x.cond cols zs=T:=⟨_,rfl⟩
 obtain ⟨C1,yS⟩: ∃CE,aD cols=CE:=⟨_,rfl⟩
 rw[hR,hT,yS]at HD0
 rw[hT]at KF
 rw[hR]
 have Ki:=hide yS
 clear hR hT yS J6
 obtain ⟨te,tk,tn⟩:=T
 simp only at HD0 KF
 obtain ⟨d1,d2,d3,d4⟩:=hp.dec
 clear hp
 simp only[ax]
 go_enter Tryz.func80,Tryz.ntmps80
 have HQ:=hide hq
 clear hq
 have HC:=hide hc
 clear hc
 have HZ:=hide hz
 clear hz
 go_wp2_with fail
 obtain ⟨W1,hW1⟩: ∃W,W=w.alloc (.cells #[.string x.name,.string x.table,.int .i64 x.kind,.slice A n c,.string x.other,.slice A' n' c',.int .i64 x.low,.int .i64 x.high,.slice aY n'' c'',.int .i64 x.ln,.int .i64 x.ld,.int .i64 x.mn,.int .i64 x.md,.int .i64 x.policy] 27):=⟨_,rfl⟩
 obtain ⟨hbW1,fO,g0,g1,g2,g3,g4,g5,g6,g7,g8,g9,g10,g11,g12,g13⟩:=dE hW1 rfl
 rw[<-hW1]
 clear hW1
 have qA:=hide hbW1
 clear hbW1
 have LR:=lt_of_cell g0
 go_wp2_with fail
 refine (jJ _ A1 n1 c1 cols (HC.out.below qA.out)).mono ?_
 rintro e w6 ⟨rfl,rfl⟩
 rw[Ki.out]
 by_cases hc1:C1=0
 rotate_left
 ·have q0:(C1 != 0)=true:=by simpa using hc1
  obtain rfl:R=C1:=by rw[HD0.out,if_pos hc1]
  go_wp2
  all_goals (try (exfalso;go_light;simp_all;done))
  go_ret
  exact ⟨rfl,qA.out⟩
 subst hc1
 go_wp2_with fail
 refine (KF.out _ (HQ.out.below qA.out) (HC.out.below qA.out) (HZ.out.below qA.out)).mono ?_
 rintro e w2 ⟨rfl,hb2⟩
 have o3:=jF g0 g1 g2 g3 g4 g5 g6 g7 g8 g9 g10 g11 g12 g13
 have jH:=hide hb2
 clear hb2
 by_cases ht:te=0
 rotate_left
 ·have q0:(te != 0)=true:=by simpa using ht
  obtain rfl:R=te:=by rw[HD0.out];simp[ht]
  obtain ⟨LR,g0,g1,g2,g3,g4,g5,g6,g7,g8,g9,g10,g11,g12,g13⟩:=o3.out _ jH.out
  go_wp2
  all_goals (try (exfalso;go_light;simp_all;done))
  go_ret
  exact ⟨rfl,(aa qA.out jH.out)⟩
 subst ht
 by_cases hk1:tk=1
 ·subst hk1
  have q1:((1:Int) != 1)=false:=by decide
  obtain rfl:R=0:=by rw[HD0.out];simp[H5.out]
  obtain ⟨LR,g0,g1,g2,g3,g4,g5,g6,g7,g8,g9,g10,g11,g12,g13⟩:=o3.out _ jH.out
  go_wp2
  all_goals (try (exfalso;go_light;simp_all;done))
  go_ret
  exact ⟨rfl,(aa qA.out jH.out)⟩
 ·have q1:(tk != 1)=true:=by simpa using hk1
  by_cases hk0:tk=0
  ·subst hk0
   have q2:((0:Int) != 0)=false:=by decide
   obtain rfl:R=0:=by rw[HD0.out];simp[H5.out]
   obtain ⟨LR,g0,g1,g2,g3,g4,g5,g6,g7,g8,g9,g10,g11,g12,g13⟩:=o3.out _ jH.out
   go_wp2
   all_goals (try (exfalso;go_light;simp_all;done))
   go_ret
   exact ⟨rfl,(aa qA.out jH.out)⟩
  ·have q2:(tk != 0)=true:=by simpa using hk0
   obtain rfl:R=7:=by rw[HD0.out];simp[hk1,hk0]
   obtain ⟨LR,g0,g1,g2,g3,g4,g5,g6,g7,g8,g9,g10,g11,g12,g13⟩:=o3.out _ jH.out
   go_wp2
   all_goals (try (exfalso;go_light;simp_all;done))
   go_ret
   exact ⟨rfl,(aa qA.out jH.out)⟩
theorem AU (w:World)(x:Chk)(A:Option Addr)(n c:Nat)(hn:In w A n c x.cols)(A':Option Addr)(n' c':Nat)(hn':In w A' n' c' x.ocols)(aY:Option Addr)(n'' c'':Nat)(hq:In w aY n'' c'' x.cond)(A1:Option Addr)(n1 c1:Nat)(cols:List Col)(hc:In w A1 n1 c1 cols)(A2:Option Addr)(n2 c2:Nat)(ocols:List Col)(ho:In w A2 n2 c2 ocols)(A5:Option Addr)(n5 c5:Nat)(zs:List Zone)(hz:In w A5 n5 c5 zs)(hb0:n<=4096)(hb1:n'<=4096)(hb2:n1<=4096)(hb3:n2<=4096)(hp:jQ x)(k4:(x.kind==4)=true)(k5:(x.kind==5)=false)(p0:(x.policy==0)=false):
  Calls Tryz.prog 80 #[.agg (ax x A n c A' n' c' aY n'' c'').toArray,.slice A1 n1 c1,.slice A2 n2 c2,.slice A5 n5 c5] w λe w'=>e=.returned (.int .i64 (bu x cols ocols zs))/\Below w.heap.size w w':=by
 have H5:=hide (by simpa using k5:¬x.kind=5)
 have HD0:=hide (show bu x cols ocols zs=if aD cols≠0 then aD cols else if gT x cols zs≠0 then gT x cols zs else if x.kind=5/\(dx x.ln x.ld&&dx x.mn x.md)=false then 1 else 0 from by
  rw[iN x cols ocols zs hp.1 hp.2]
  have:iE x.kind=true:=by rw[iE,k4,k5];rfl
  rw[this];simp)
 rw[gT]at HD0
 have J6:=nC hc
 have KF:=hide λW hq hc hz=>vo W aY n'' c'' x.cond hq A1 n1 c1 cols hc J6 A5 n5 c5 zs hz
 obtain ⟨R,hR⟩: ∃R,bu x cols ocols zs=R:=⟨_,rfl⟩
 obtain ⟨T,hT⟩: ∃T,cK x.cond cols zs=T:=⟨_,rfl⟩
 obtain ⟨C1,yS⟩: ∃CE,aD cols=CE:=⟨_,rfl⟩
 rw[hR,hT,yS]at HD0
 rw[hT]at KF
 rw[hR]
 have Ki:=hide yS
 clear hR hT yS J6
 obtain ⟨te,tk,tn⟩:=T
 simp only at HD0 KF
 obtain ⟨d1,d2,d3,d4⟩:=hp.dec
 clear hp
 simp only[ax]
 go_enter Tryz.func80,Tryz.ntmps80
 have HQ:=hide hq
 clear hq
 have HC:=hide hc
 clear hc
 have HZ:=hide hz
 clear hz
 go_wp2_with fail
 obtain ⟨W1,hW1⟩: ∃W,W=w.alloc (.cells #[.string x.name,.string x.table,.int .i64 x.kind,.slice A n c,.string x.other,.slice A' n' c',.int .i64 x.low,.int .i64 x.high,.slice aY n'' c'',.int .i64 x.ln,.int .i64 x.ld,.int .i64 x.mn,.int .i64 x.md,.int .i64 x.policy] 27):=⟨_,rfl⟩
 obtain ⟨hbW1,fO,g0,g1,g2,g3,g4,g5,g6,g7,g8,g9,g10,g11,g12,g13⟩:=dE hW1 rfl
 rw[<-hW1]
 clear hW1
 have nZ:=hide hbW1
 clear hbW1
 have LR:=lt_of_cell g0
 go_wp2_with fail
 refine (jJ _ A1 n1 c1 cols (HC.out.below nZ.out)).mono ?_
 rintro e w6 ⟨rfl,rfl⟩
 rw[Ki.out]
 by_cases hc1:C1=0
 rotate_left
 ·have q0:(C1 != 0)=true:=by simpa using hc1
  obtain rfl:R=C1:=by rw[HD0.out,if_pos hc1]
  go_wp2
  all_goals (try (exfalso;go_light;simp_all;done))
  go_ret
  exact ⟨rfl,nZ.out⟩
 subst hc1
 go_wp2_with fail
 refine (KF.out _ (HQ.out.below nZ.out) (HC.out.below nZ.out) (HZ.out.below nZ.out)).mono ?_
 rintro e w6 ⟨rfl,hb6⟩
 have o7:=jF g0 g1 g2 g3 g4 g5 g6 g7 g8 g9 g10 g11 g12 g13
 have mf:=hide hb6
 clear hb6
 by_cases ht:te=0
 rotate_left
 ·have q0:(te != 0)=true:=by simpa using ht
  obtain rfl:R=te:=by rw[HD0.out];simp[ht]
  obtain ⟨LR,g0,g1,g2,g3,g4,g5,g6,g7,g8,g9,g10,g11,g12,g13⟩:=o7.out _ mf.out
  go_wp2
  all_goals (try (exfalso;go_light;simp_all;done))
  go_ret
  exact ⟨rfl,(aa nZ.out mf.out)⟩
 subst ht
 by_cases hk1:tk=1
 ·subst hk1
  have q1:((1:Int) != 1)=false:=by decide
  obtain rfl:R=0:=by rw[HD0.out];simp[H5.out]
  obtain ⟨LR,g0,g1,g2,g3,g4,g5,g6,g7,g8,g9,g10,g11,g12,g13⟩:=o7.out _ mf.out
  go_wp2
  all_goals (try (exfalso;go_light;simp_all;done))
  go_ret
  exact ⟨rfl,(aa nZ.out mf.out)⟩
 ·have q1:(tk != 1)=true:=by simpa using hk1
  by_cases hk0:tk=0
  ·subst hk0
   have q2:((0:Int) != 0)=false:=by decide
   obtain rfl:R=0:=by rw[HD0.out];simp[H5.out]
   obtain ⟨LR,g0,g1,g2,g3,g4,g5,g6,g7,g8,g9,g10,g11,g12,g13⟩:=o7.out _ mf.out
   go_wp2
   all_goals (try (exfalso;go_light;simp_all;done))
   go_ret
   exact ⟨rfl,(aa nZ.out mf.out)⟩
  ·have q2:(tk != 0)=true:=by simpa using hk0
   obtain rfl:R=7:=by rw[HD0.out];simp[hk1,hk0]
   obtain ⟨LR,g0,g1,g2,g3,g4,g5,g6,g7,g8,g9,g10,g11,g12,g13⟩:=o7.out _ mf.out
   go_wp2
   all_goals (try (exfalso;go_light;simp_all;done))
   go_ret
   exact ⟨rfl,(aa nZ.out mf.out)⟩
theorem AV (w:World)(x:Chk)(A:Option Addr)(n c:Nat)(hn:In w A n c x.cols)(A':Option Addr)(n' c':Nat)(hn':In w A' n' c' x.ocols)(aY:Option Addr)(n'' c'':Nat)(hq:In w aY n'' c'' x.cond)(A1:Option Addr)(n1 c1:Nat)(cols:List Col)(hc:In w A1 n1 c1 cols)(A2:Option Addr)(n2 c2:Nat)(ocols:List Col)(ho:In w A2 n2 c2 ocols)(A5:Option Addr)(n5 c5:Nat)(zs:List Zone)(hz:In w A5 n5 c5 zs)(hb0:n<=4096)(hb1:n'<=4096)(hb2:n1<=4096)(hb3:n2<=4096)(hp:jQ x)(k4:(x.kind==4)=false)(k5:(x.kind==5)=true)(p0:(x.policy==0)=false):
  Calls Tryz.prog 80 #[.agg (ax x A n c A' n' c' aY n'' c'').toArray,.slice A1 n1 c1,.slice A2 n2 c2,.slice A5 n5 c5] w λe w'=>e=.returned (.int .i64 (bu x cols ocols zs))/\Below w.heap.size w w':=by
 have H5:=hide (by simpa using k5:x.kind=5)
 have HD0:=hide (show bu x cols ocols zs=if aD cols≠0 then aD cols else if gT x cols zs≠0 then gT x cols zs else if x.kind=5/\(dx x.ln x.ld&&dx x.mn x.md)=false then 1 else 0 from by
  rw[iN x cols ocols zs hp.1 hp.2]
  have:iE x.kind=true:=by rw[iE,k4,k5];rfl
  rw[this];simp)
 rw[gT]at HD0
 have J6:=nC hc
 have KF:=hide λW hq hc hz=>vo W aY n'' c'' x.cond hq A1 n1 c1 cols hc J6 A5 n5 c5 zs hz
 obtain ⟨R,hR⟩: ∃R,bu x cols ocols zs=R:=⟨_,rfl⟩
 obtain ⟨T,hT⟩: ∃T,cK x.cond cols zs=T:=⟨_,rfl⟩
 obtain ⟨C1,yS⟩: ∃CE,aD cols=CE:=⟨_,rfl⟩
 rw[hR,hT,yS]at HD0
 rw[hT]at KF
 rw[hR]
 have Ki:=hide yS
 clear hR hT yS J6
 obtain ⟨te,tk,tn⟩:=T
 simp only at HD0 KF
 obtain ⟨d1,d2,d3,d4⟩:=hp.dec
 clear hp
 simp only[ax]
 go_enter Tryz.func80,Tryz.ntmps80
 have HQ:=hide hq
 clear hq
 have HC:=hide hc
 clear hc
 have HZ:=hide hz
 clear hz
 go_wp2_with fail
 obtain ⟨W1,hW1⟩: ∃W,W=w.alloc (.cells #[.string x.name,.string x.table,.int .i64 x.kind,.slice A n c,.string x.other,.slice A' n' c',.int .i64 x.low,.int .i64 x.high,.slice aY n'' c'',.int .i64 x.ln,.int .i64 x.ld,.int .i64 x.mn,.int .i64 x.md,.int .i64 x.policy] 27):=⟨_,rfl⟩
 obtain ⟨hbW1,fO,g0,g1,g2,g3,g4,g5,g6,g7,g8,g9,g10,g11,g12,g13⟩:=dE hW1 rfl
 rw[<-hW1]
 clear hW1
 have uy:=hide hbW1
 clear hbW1
 have LR:=lt_of_cell g0
 go_wp2_with fail
 refine (jJ _ A1 n1 c1 cols (HC.out.below uy.out)).mono ?_
 rintro e w6 ⟨rfl,rfl⟩
 rw[Ki.out]
 by_cases hc1:C1=0
 rotate_left
 ·have q0:(C1 != 0)=true:=by simpa using hc1
  obtain rfl:R=C1:=by rw[HD0.out,if_pos hc1]
  go_wp2
  all_goals (try (exfalso;go_light;simp_all;done))
  go_ret
  exact ⟨rfl,uy.out⟩
 subst hc1
 go_wp2_with fail
 refine (KF.out _ (HQ.out.below uy.out) (HC.out.below uy.out) (HZ.out.below uy.out)).mono ?_
 rintro e VQ ⟨rfl,qY⟩
 have EN:=jF g0 g1 g2 g3 g4 g5 g6 g7 g8 g9 g10 g11 g12 g13
 have ji:=hide qY
 clear qY
 by_cases ht:te=0
 rotate_left
 ·have q0:(te != 0)=true:=by simpa using ht
  obtain rfl:R=te:=by rw[HD0.out];simp[ht]
  obtain ⟨LR,g0,g1,g2,g3,g4,g5,g6,g7,g8,g9,g10,g11,g12,g13⟩:=EN.out _ ji.out
  go_wp2
  all_goals (try (exfalso;go_light;simp_all;done))
  go_ret
  exact ⟨rfl,(aa uy.out ji.out)⟩
 subst ht
 by_cases hk1:tk=1
 ·subst hk1
  have q1:((1:Int) != 1)=false:=by decide
  have HRR:Hid (R=if eP x 0=false then 1 else 0):=hide (by rw[HD0.out,eP];simp[H5.out])
  clear HD0
  obtain ⟨W3,rfl⟩: ∃W,W=VQ:=⟨_,rfl⟩
  obtain ⟨LR,g0,g1,g2,g3,g4,g5,g6,g7,g8,g9,g10,g11,g12,g13⟩:=EN.out _ ji.out
  go_upto_region 15 with (fail)
  go_wp2_with fail
  obtain ⟨W4,jb⟩: ∃W,W=W3.alloc (.cells #[.int .i64 x.ln,.int .i64 x.ld,.int .i64 x.mn,.int .i64 x.md] 25):=⟨_,rfl⟩
  obtain ⟨fI,mZ,y0,y1,y2,y3⟩:=pE jb rfl
  rw[<-jb]
  clear jb
  have ut:=hide fI
  clear fI
  have L4:=lt_of_cell y0
  have sZ:=hide (aa ji.out ut.out)
  obtain ⟨LR,g0,g1,g2,g3,g4,g5,g6,g7,g8,g9,g10,g11,g12,g13⟩:=EN.out _ sZ.out
  go_loopw [92] (λi wr=> ∃k:Nat,k<=2/\i=.int .i64 k/\eP x 0=eP x k/\Below W4.heap.size W4 wr) (λi _=>2-(RowKit.intOf i).toNat)
  case atStart=>exact ⟨0,by omega,rfl,rfl,Below.refl _ _⟩
  case round=>
   obtain ⟨k,hk,rfl,heq,hb⟩:=hrel
   have HE:=hide heq
   clear heq
   have Qb:=lX (jF g0 g1 g2 g3 g4 g5 g6 g7 g8 g9 g10 g11 g12 g13) (jI y0 y1 y2 y3)
   have mX:=hide hb
   clear hb
   have l9:=hide mX.out
   have jk:=hide (aa (aa (aa uy.out ji.out) ut.out) mX.out)
   by_cases hlt:k<2
   ·have hkk: ∃rn rd,wr.cell? ⟨W3.heap.size,k*2,none⟩=some (.int .i64 rn)/\wr.cell? ⟨W3.heap.size,k*2+1,none⟩=some (.int .i64 rd)/\Hid (eP x k=(dx rn rd&&eP x (k+1))):=by
     rcases (by omega:k=0\/k=1) with rfl|rfl
     ·obtain ⟨⟨LR,g0,g1,g2,g3,g4,g5,g6,g7,g8,g9,g10,g11,g12,g13⟩,L4,y0,y1,y2,y3⟩:=Qb.out _ mX.out
      exact ⟨x.ln,x.ld,y0,y1,hide (by simp[eP])⟩
     ·obtain ⟨⟨LR,g0,g1,g2,g3,g4,g5,g6,g7,g8,g9,g10,g11,g12,g13⟩,L4,y0,y1,y2,y3⟩:=Qb.out _ mX.out
      exact ⟨x.mn,x.md,y2,y3,hide (by simp[eP])⟩
    obtain ⟨rn,rd,e0,e1,Ah⟩:=hkk
    have k0:(0:Int)<=(k:Int):=by omega
    have k1:(k:Int)<2:=by omega
    obtain ⟨⟨LR,g0,g1,g2,g3,g4,g5,g6,g7,g8,g9,g10,g11,g12,g13⟩,L4,y0,y1,y2,y3⟩:=Qb.out _ mX.out
    clear y0 y1 y2 y3
    have Nw:=hide (aa jk.out (af (o:=.cells #[.int .i64 rn,.int .i64 rd] 25)))
    have NH:=hide (aa l9.out (af (o:=.cells #[.int .i64 rn,.int .i64 rd] 25)))
    rcases zM rn rd with ⟨a1,hr⟩|⟨a1,a2,hr⟩|⟨a1,a2,a3,hr⟩|⟨a1,a2,a3,a4,hr⟩|⟨a1,a2,a3,a4,hr⟩
    ·obtain rfl:R=1:=by rw[HRR.out,HE.out,Ah.out,hr];simp
     clear hr
     go_wp2
     all_goals (try (exfalso;go_light;simp_all;done))
     go_ret
     exact ⟨rfl,Nw.out⟩
    ·obtain rfl:R=1:=by rw[HRR.out,HE.out,Ah.out,hr];simp
     clear hr
     go_wp2
     all_goals (try (exfalso;go_light;simp_all;done))
     go_ret
     exact ⟨rfl,Nw.out⟩
    ·obtain rfl:R=1:=by rw[HRR.out,HE.out,Ah.out,hr];simp
     clear hr
     go_wp2
     all_goals (try (exfalso;go_light;simp_all;done))
     go_ret
     exact ⟨rfl,Nw.out⟩
    ·obtain rfl:R=1:=by rw[HRR.out,HE.out,Ah.out,hr];simp
     clear hr
     go_wp2
     all_goals (try (exfalso;go_light;simp_all;done))
     go_ret
     exact ⟨rfl,Nw.out⟩
    ·have HN:Hid (eP x 0=eP x (k+1)):=hide (by rw[HE.out,Ah.out,hr];simp)
     clear hr
     go_wp2
     all_goals (try (exfalso;go_light;simp_all;done))
     go_roundw
     case rel=>exact ⟨k+1,by omega,by go_num,HN.out,NH.out⟩
     case measure=>simp[RowKit.intOf];omega
   ·obtain rfl:k=2:=by omega
    obtain rfl:R=0:=by rw[HRR.out,HE.out];simp[eP]
    obtain ⟨⟨LR,g0,g1,g2,g3,g4,g5,g6,g7,g8,g9,g10,g11,g12,g13⟩,L4,y0,y1,y2,y3⟩:=Qb.out _ mX.out
    go_wp2
    all_goals (try (exfalso;go_light;simp_all;done))
    go_ret
    exact ⟨rfl,jk.out⟩
 ·have q1:(tk != 1)=true:=by simpa using hk1
  by_cases hk0:tk=0
  ·subst hk0
   have q2:((0:Int) != 0)=false:=by decide
   have HRR:Hid (R=if eP x 0=false then 1 else 0):=hide (by rw[HD0.out,eP];simp[H5.out])
   clear HD0
   obtain ⟨W3,rfl⟩: ∃W,W=VQ:=⟨_,rfl⟩
   obtain ⟨LR,g0,g1,g2,g3,g4,g5,g6,g7,g8,g9,g10,g11,g12,g13⟩:=EN.out _ ji.out
   go_upto_region 15 with (fail)
   go_wp2_with fail
   obtain ⟨W4,jb⟩: ∃W,W=W3.alloc (.cells #[.int .i64 x.ln,.int .i64 x.ld,.int .i64 x.mn,.int .i64 x.md] 25):=⟨_,rfl⟩
   obtain ⟨fI,mZ,y0,y1,y2,y3⟩:=pE jb rfl
   rw[<-jb]
   clear jb
   have mY:=hide fI
   clear fI
   have L4:=lt_of_cell y0
   have VZ:=hide (aa ji.out mY.out)
   obtain ⟨LR,g0,g1,g2,g3,g4,g5,g6,g7,g8,g9,g10,g11,g12,g13⟩:=EN.out _ VZ.out
   go_loopw [92] (λi wr=> ∃k:Nat,k<=2/\i=.int .i64 k/\eP x 0=eP x k/\Below W4.heap.size W4 wr) (λi _=>2-(RowKit.intOf i).toNat)
   case atStart=>exact ⟨0,by omega,rfl,rfl,Below.refl _ _⟩
   case round=>
    obtain ⟨k,hk,rfl,heq,hb⟩:=hrel
    have HE:=hide heq
    clear heq
    have Sc:=lX (jF g0 g1 g2 g3 g4 g5 g6 g7 g8 g9 g10 g11 g12 g13) (jI y0 y1 y2 y3)
    have jW:=hide hb
    clear hb
    have l9:=hide jW.out
    have jk:=hide (aa (aa (aa uy.out ji.out) mY.out) jW.out)
    by_cases hlt:k<2
    ·have hkk: ∃rn rd,wr.cell? ⟨W3.heap.size,k*2,none⟩=some (.int .i64 rn)/\wr.cell? ⟨W3.heap.size,k*2+1,none⟩=some (.int .i64 rd)/\Hid (eP x k=(dx rn rd&&eP x (k+1))):=by
      rcases (by omega:k=0\/k=1) with rfl|rfl
      ·obtain ⟨⟨LR,g0,g1,g2,g3,g4,g5,g6,g7,g8,g9,g10,g11,g12,g13⟩,L4,y0,y1,y2,y3⟩:=Sc.out _ jW.out
       exact ⟨x.ln,x.ld,y0,y1,hide (by simp[eP])⟩
      ·obtain ⟨⟨LR,g0,g1,g2,g3,g4,g5,g6,g7,g8,g9,g10,g11,g12,g13⟩,L4,y0,y1,y2,y3⟩:=Sc.out _ jW.out
       exact ⟨x.mn,x.md,y2,y3,hide (by simp[eP])⟩
     obtain ⟨rn,rd,e0,e1,Ah⟩:=hkk
     have k0:(0:Int)<=(k:Int):=by omega
     have k1:(k:Int)<2:=by omega
     obtain ⟨⟨LR,g0,g1,g2,g3,g4,g5,g6,g7,g8,g9,g10,g11,g12,g13⟩,L4,y0,y1,y2,y3⟩:=Sc.out _ jW.out
     clear y0 y1 y2 y3
     have Nw:=hide (aa jk.out (af (o:=.cells #[.int .i64 rn,.int .i64 rd] 25)))
     have NH:=hide (aa l9.out (af (o:=.cells #[.int .i64 rn,.int .i64 rd] 25)))
     rcases zM rn rd with ⟨a1,hr⟩|⟨a1,a2,hr⟩|⟨a1,a2,a3,hr⟩|⟨a1,a2,a3,a4,hr⟩|⟨a1,a2,a3,a4,hr⟩
     ·obtain rfl:R=1:=by rw[HRR.out,HE.out,Ah.out,hr];simp
      clear hr
      go_wp2
      all_goals (try (exfalso;go_light;simp_all;done))
      go_ret
      exact ⟨rfl,Nw.out⟩
     ·obtain rfl:R=1:=by rw[HRR.out,HE.out,Ah.out,hr];simp
      clear hr
      go_wp2
      all_goals (try (exfalso;go_light;simp_all;done))
      go_ret
      exact ⟨rfl,Nw.out⟩
     ·obtain rfl:R=1:=by rw[HRR.out,HE.out,Ah.out,hr];simp
      clear hr
      go_wp2
      all_goals (try (exfalso;go_light;simp_all;done))
      go_ret
      exact ⟨rfl,Nw.out⟩
     ·obtain rfl:R=1:=by rw[HRR.out,HE.out,Ah.out,hr];simp
      clear hr
      go_wp2
      all_goals (try (exfalso;go_light;simp_all;done))
      go_ret
      exact ⟨rfl,Nw.out⟩
     ·have HN:Hid (eP x 0=eP x (k+1)):=hide (by rw[HE.out,Ah.out,hr];simp)
      clear hr
      go_wp2
      all_goals (try (exfalso;go_light;simp_all;done))
      go_roundw
      case rel=>exact ⟨k+1,by omega,by go_num,HN.out,NH.out⟩
      case measure=>simp[RowKit.intOf];omega
    ·obtain rfl:k=2:=by omega
     obtain rfl:R=0:=by rw[HRR.out,HE.out];simp[eP]
     obtain ⟨⟨LR,g0,g1,g2,g3,g4,g5,g6,g7,g8,g9,g10,g11,g12,g13⟩,L4,y0,y1,y2,y3⟩:=Sc.out _ jW.out
     go_wp2
     all_goals (try (exfalso;go_light;simp_all;done))
     go_ret
     exact ⟨rfl,jk.out⟩
  ·have q2:(tk != 0)=true:=by simpa using hk0
   obtain rfl:R=7:=by rw[HD0.out];simp[hk1,hk0]
   obtain ⟨LR,g0,g1,g2,g3,g4,g5,g6,g7,g8,g9,g10,g11,g12,g13⟩:=EN.out _ ji.out
   go_wp2
   all_goals (try (exfalso;go_light;simp_all;done))
   go_ret
   exact ⟨rfl,(aa uy.out ji.out)⟩
theorem zU (w:World)(x:Chk)(A:Option Addr)(n c:Nat)(hn:In w A n c x.cols)(A':Option Addr)(n' c':Nat)(hn':In w A' n' c' x.ocols)(aY:Option Addr)(n'' c'':Nat)(hq:In w aY n'' c'' x.cond)(A1:Option Addr)(n1 c1:Nat)(cols:List Col)(hc:In w A1 n1 c1 cols)(A2:Option Addr)(n2 c2:Nat)(ocols:List Col)(ho:In w A2 n2 c2 ocols)(A5:Option Addr)(n5 c5:Nat)(zs:List Zone)(hz:In w A5 n5 c5 zs)(hb0:n<=4096)(hb1:n'<=4096)(hb2:n1<=4096)(hb3:n2<=4096):
  Calls Tryz.prog 80 #[.agg (ax x A n c A' n' c' aY n'' c'').toArray,.slice A1 n1 c1,.slice A2 n2 c2,.slice A5 n5 c5] w λe w'=>e=.returned (.int .i64 (bu x cols ocols zs))/\Below w.heap.size w w':=by
 by_cases hp:jQ x
 ·by_cases h4:x.kind=4
  ·have k4:(x.kind==4)=true:=by simpa using h4
   have k5:(x.kind==5)=false:=by rw[h4];rfl
   cases p0:(x.policy==0)
   ·exact AU w x A n c hn A' n' c' hn' aY n'' c'' hq A1 n1 c1 cols hc A2 n2 c2 ocols ho A5 n5 c5 zs hz hb0 hb1 hb2 hb3 hp k4 k5 p0
   ·exact AR w x A n c hn A' n' c' hn' aY n'' c'' hq A1 n1 c1 cols hc A2 n2 c2 ocols ho A5 n5 c5 zs hz hb0 hb1 hb2 hb3 hp k4 k5 (by rw[h4];rfl) p0
  ·by_cases h5:x.kind=5
   ·have k5:(x.kind==5)=true:=by simpa using h5
    have k4:(x.kind==4)=false:=by rw[h5];rfl
    have p0:(x.policy==0)=false:=by
     have:=hp.2
     simp only[beq_eq_false_iff_ne]
     omega
    exact AV w x A n c hn A' n' c' hn' aY n'' c'' hq A1 n1 c1 cols hc A2 n2 c2 ocols ho A5 n5 c5 zs hz hb0 hb1 hb2 hb3 hp k4 k5 p0
   ·exact xQ w x A n c hn A' n' c' hn' aY n'' c'' hq A1 n1 c1 cols hc A2 n2 c2 ocols ho A5 n5 c5 zs hz hb0 hb1 hb2 hb3 hp h4 h5
 ·exact zT w x A n c A' n' c' aY n'' c'' _ _ _ hp cols ocols zs
theorem F7 (w:World)(x:Chk)(A:Option Addr)(n c:Nat)(hn:In w A n c x.cols)(A':Option Addr)(n' c':Nat)(hn':In w A' n' c' x.ocols)(aY:Option Addr)(n'' c'':Nat)(hq:In w aY n'' c'' x.cond)(rn:ByteArray)(A1:Option Addr)(n1 c1:Nat)(cols:List Col)(hc:In w A1 n1 c1 cols)(Ak:Option Addr)(nk ck:Nat)(A3:Option Addr)(n3 c3:Nat)(rows:List Ent)(hr:In w A3 n3 c3 rows)(on:ByteArray)(A2:Option Addr)(n2 c2:Nat)(ocols:List Col)(ho:In w A2 n2 c2 ocols)(Al:Option Addr)(nl cl:Nat)(A4:Option Addr)(n4 c4:Nat)(orows:List Ent)(hor:In w A4 n4 c4 orows)(A5:Option Addr)(n5 c5:Nat)(zs:List Zone)(hz:In w A5 n5 c5 zs)(hb0:n<=4096)(hb1:n'<=4096)(hb2:n1<=4096)(hb3:n2<=4096):
  Calls Tryz.prog 51 #[.agg (ax x A n c A' n' c' aY n'' c'').toArray,.agg #[.string rn,.slice A1 n1 c1,.slice Ak nk ck,.slice A3 n3 c3],.agg #[.string on,.slice A2 n2 c2,.slice Al nl cl,.slice A4 n4 c4],.slice A5 n5 c5] w
   λe w'=>e=.returned (.int .i64 (aI x cols ocols rows orows zs))/\Below w.heap.size w w':=by
 have HV:=hide λW hn hn' hq hc ho hz=>zU W x A n c hn A' n' c' hn' aY n'' c'' hq A1 n1 c1 cols hc A2 n2 c2 ocols ho A5 n5 c5 zs hz hb0 hb1 hb2 hb3
 have HU:=hide λW=>sF W x A n c A' n' c' aY n'' c''
 have HT1:=hide λW hc hr=>BI W rn A1 n1 c1 cols hc Ak nk ck A3 n3 c3 rows hr
 have HT2:=hide λW hc hr=>BI W on A2 n2 c2 ocols hc Al nl cl A4 n4 c4 orows hr
 have HD:=hide (show aI x cols ocols rows orows zs=if bu x cols ocols zs≠0 then bu x cols ocols zs else if eH cols rows≠0 then eH cols rows else if iL x.kind=true then eH ocols orows else 0 from rfl)
 obtain ⟨R,hR⟩: ∃R,aI x cols ocols rows orows zs=R:=⟨_,rfl⟩
 obtain ⟨E1,hE1⟩: ∃R,bu x cols ocols zs=R:=⟨_,rfl⟩
 obtain ⟨E2,hE2⟩: ∃R,eH cols rows=R:=⟨_,rfl⟩
 obtain ⟨E3,kM⟩: ∃R,eH ocols orows=R:=⟨_,rfl⟩
 obtain ⟨U,hU⟩: ∃R,iL x.kind=R:=⟨_,rfl⟩
 rw[hR,hE1,hE2,kM,hU]at HD
 rw[hE1]at HV
 rw[hE2]at HT1
 rw[kM]at HT2
 rw[hU]at HU
 rw[hR]
 clear hR hE1 hE2 kM hU
 simp only[ax]at HV HU⊢
 go_enter Tryz.func51,Tryz.ntmps51
 have HN:=hide hn
 clear hn
 have eT:=hide hn'
 clear hn'
 have HQ:=hide hq
 clear hq
 have HC:=hide hc
 clear hc
 have HO:=hide ho
 clear ho
 have HZ:=hide hz
 clear hz
 have HR:=hide hr
 clear hr
 have kr:=hide hor
 clear hor
 go_wp2_with fail
 obtain ⟨W3,hW3,d9,bR,zD⟩:=dm w x A n c A' n' c' aY n'' c'' rn A1 n1 c1 Ak nk ck A3 n3 c3 on A2 n2 c2 Al nl cl A4 n4 c4
 rw[<-hW3]
 clear hW3
 have kw:=hide bR
 clear bR
 obtain ⟨⟨LR,g0,g1,g2,g3,g4,g5,g6,g7,g8,g9,g10,g11,g12,g13⟩,⟨L2,r0,r1,r2,r3⟩,L3,s0,s1,s2,s3⟩:=zD.out _ (Below.refl _ _)
 go_wp2_with fail
 refine (HV.out _ (HN.out.below kw.out) (eT.out.below kw.out) (HQ.out.below kw.out) (HC.out.below kw.out) (HO.out.below kw.out) (HZ.out.below kw.out)).mono ?_
 rintro e w23 ⟨rfl,L9⟩
 have il:=hide L9
 clear L9
 by_cases h1:E1=0
 rotate_left
 ·have q1:(E1 != 0)=true:=by simpa using h1
  obtain rfl:R=E1:=by rw[HD.out,if_pos h1]
  obtain ⟨⟨LR,g0,g1,g2,g3,g4,g5,g6,g7,g8,g9,g10,g11,g12,g13⟩,⟨L2,r0,r1,r2,r3⟩,L3,s0,s1,s2,s3⟩:=zD.out _ il.out
  go_wp2
  all_goals (try (exfalso;go_light;simp_all;done))
  go_ret
  exact ⟨rfl,(aa kw.out il.out)⟩
 subst h1
 obtain ⟨⟨LR,g0,g1,g2,g3,g4,g5,g6,g7,g8,g9,g10,g11,g12,g13⟩,⟨L2,r0,r1,r2,r3⟩,L3,s0,s1,s2,s3⟩:=zD.out _ il.out
 go_wp2_with fail
 have BO:=hide (aa kw.out il.out)
 refine (HT1.out _ (HC.out.below BO.out) (HR.out.below BO.out)).mono ?_
 rintro e w25 ⟨rfl,Ma⟩
 have nQ:=hide (aa il.out Ma)
 clear Ma
 by_cases h2:E2=0
 rotate_left
 ·have q2:(E2 != 0)=true:=by simpa using h2
  obtain rfl:R=E2:=by rw[HD.out];simp[h2]
  obtain ⟨⟨LR,g0,g1,g2,g3,g4,g5,g6,g7,g8,g9,g10,g11,g12,g13⟩,⟨L2,r0,r1,r2,r3⟩,L3,s0,s1,s2,s3⟩:=zD.out _ nQ.out
  go_wp2
  all_goals (try (exfalso;go_light;simp_all;done))
  go_ret
  exact ⟨rfl,(aa kw.out nQ.out)⟩
 subst h2
 obtain ⟨⟨LR,g0,g1,g2,g3,g4,g5,g6,g7,g8,g9,g10,g11,g12,g13⟩,⟨L2,r0,r1,r2,r3⟩,L3,s0,s1,s2,s3⟩:=zD.out _ nQ.out
 go_wp2_with fail
 refine (HU.out _).mono ?_
 rintro e YF ⟨rfl,CG⟩
 have K9:=hide (aa nQ.out CG)
 clear CG
 cases U
 ·obtain rfl:R=0:=by rw[HD.out];simp
  obtain ⟨⟨LR,g0,g1,g2,g3,g4,g5,g6,g7,g8,g9,g10,g11,g12,g13⟩,⟨L2,r0,r1,r2,r3⟩,L3,s0,s1,s2,s3⟩:=zD.out _ K9.out
  go_wp2
  all_goals (try (exfalso;go_light;simp_all;done))
  go_ret
  exact ⟨rfl,(aa kw.out K9.out)⟩
 ·obtain rfl:R=E3:=by rw[HD.out];simp
  obtain ⟨⟨LR,g0,g1,g2,g3,g4,g5,g6,g7,g8,g9,g10,g11,g12,g13⟩,⟨L2,r0,r1,r2,r3⟩,L3,s0,s1,s2,s3⟩:=zD.out _ K9.out
  go_wp2_with fail
  have qo:=hide (aa kw.out K9.out)
  refine (HT2.out _ (HO.out.below qo.out) (kr.out.below qo.out)).mono ?_
  rintro e w30 ⟨rfl,Uh⟩
  have oW:=hide (aa K9.out Uh)
  clear Uh
  obtain ⟨⟨LR,g0,g1,g2,g3,g4,g5,g6,g7,g8,g9,g10,g11,g12,g13⟩,⟨L2,r0,r1,r2,r3⟩,L3,s0,s1,s2,s3⟩:=zD.out _ oW.out
  go_wp2
  all_goals (try (exfalso;go_light;simp_all;done))
  go_ret
  exact ⟨rfl,(aa kw.out oW.out)⟩
end Go.Proofs.YtggejcekmehocaaGreatDoor
