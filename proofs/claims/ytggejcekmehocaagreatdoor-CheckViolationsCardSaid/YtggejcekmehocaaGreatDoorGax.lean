/-
  warehouseref28.UsesOther, table, holds. (Printed by gen_valr.py.) warehouseref28.Validate. (Printed by gen_valr.py.)
-/
import Derived.Test.YtggejcekmehocaaGreatDoorChkA
import Derived.Test.YtggejcekmehocaaGreatDoorCls
import Derived.Test.YtggejcekmehocaaGreatDoorGau
import Derived.Test.YtggejcekmehocaaGreatDoorTypR
namespace Go.Proofs.YtggejcekmehocaaGreatDoor
set_option maxHeartbeats 4000000
set_option maxRecDepth 100000
open Go.RowKit
set_option linter.unusedSimpArgs false
set_option linter.unusedVariables false
theorem sF (w:World)(x:Chk)(A:Option Addr)(n c:Nat)(A':Option Addr)(n' c':Nat)(aY:Option Addr)(n'' c'':Nat):Calls Tryz.prog 40 #[.agg (ax x A n c A' n' c' aY n'' c'').toArray] w λe w'=>e=.returned (.bool (iL x.kind))/\Below w.heap.size w w':=by
 rw[iL]
 simp only[ax]
 cases h3:(x.kind==3)
 ·go_enter Tryz.func40,Tryz.ntmps40
  go_wp2_with fail
  obtain ⟨W1,hW1⟩: ∃W,W=w.alloc (.cells #[.string x.name,.string x.table,.int .i64 x.kind,.slice A n c,.string x.other,.slice A' n' c',.int .i64 x.low,.int .i64 x.high,.slice aY n'' c'',.int .i64 x.ln,.int .i64 x.ld,.int .i64 x.mn,.int .i64 x.md,.int .i64 x.policy] 27):=⟨_,rfl⟩
  obtain ⟨hbW1,fO,g0,g1,g2,g3,g4,g5,g6,g7,g8,g9,g10,g11,g12,g13⟩:=dE hW1 rfl
  rw[<-hW1]
  clear hW1
  have qA:=hide hbW1
  clear hbW1
  have LR:=lt_of_cell g0
  go_wp2
  go_ret
  exact ⟨ay (by simp),qA.out⟩
 ·go_enter Tryz.func40,Tryz.ntmps40
  go_wp2_with fail
  obtain ⟨W1,hW1⟩: ∃W,W=w.alloc (.cells #[.string x.name,.string x.table,.int .i64 x.kind,.slice A n c,.string x.other,.slice A' n' c',.int .i64 x.low,.int .i64 x.high,.slice aY n'' c'',.int .i64 x.ln,.int .i64 x.ld,.int .i64 x.mn,.int .i64 x.md,.int .i64 x.policy] 27):=⟨_,rfl⟩
  obtain ⟨hbW1,fO,g0,g1,g2,g3,g4,g5,g6,g7,g8,g9,g10,g11,g12,g13⟩:=dE hW1 rfl
  rw[<-hW1]
  clear hW1
  have fK:=hide hbW1
  clear hbW1
  have LR:=lt_of_cell g0
  go_wp2
  go_ret
  exact ⟨ay (by simp),fK.out⟩
theorem Bp (w:World)(x:Chk)(A:Option Addr)(n c:Nat)(A':Option Addr)(n' c':Nat)(aY:Option Addr)(n'' c'':Nat)(hq:In w aY n'' c'' x.cond)(A1:Option Addr)(n1 c1:Nat)(cols:List Col)(hc:In w A1 n1 c1 cols)(A2:Option Addr)(n2 c2:Nat)(zs:List Zone)(hz:In w A2 n2 c2 zs)(A3:Option Addr)(n3 c3:Nat)(row:List Val)(hr:In w A3 n3 c3 row):
  Calls Tryz.prog 68 #[.agg (ax x A n c A' n' c' aY n'' c'').toArray,.slice A1 n1 c1,.slice A2 n2 c2,.slice A3 n3 c3] w λe w'=>e=.returned (.bool (bB x.cond cols row zs))/\Below w.heap.size w w':=by
 have HE:=hide λW hq hc hr hz=>Lv W aY n'' c'' x.cond hq A1 n1 c1 cols hc A3 n3 c3 row hr A2 n2 c2 zs hz
 have HV:=hide (jw (wN x.cond cols row zs))
 have HD:=hide (show bB x.cond cols row zs=((iI x.cond cols row zs).1==0&&truth (iI x.cond cols row zs).2==1) from rfl)
 obtain ⟨R,hR⟩: ∃R,bB x.cond cols row zs=R:=⟨_,rfl⟩
 obtain ⟨E,hE⟩: ∃E,iI x.cond cols row zs=E:=⟨_,rfl⟩
 rw[hR]at HD
 rw[hE]at HE HV HD
 rw[hR]
 clear hR hE
 obtain ⟨ee,vk,vn,vs⟩:=E
 simp only[Val.cells]at HE HV HD
 simp only[ax]
 go_enter Tryz.func68,Tryz.ntmps68
 have HQ:=hide hq
 clear hq
 have HC:=hide hc
 clear hc
 have HR:=hide hr
 clear hr
 have HZ:=hide hz
 clear hz
 go_wp2_with fail
 obtain ⟨W1,hW1⟩: ∃W,W=w.alloc (.cells #[.string x.name,.string x.table,.int .i64 x.kind,.slice A n c,.string x.other,.slice A' n' c',.int .i64 x.low,.int .i64 x.high,.slice aY n'' c'',.int .i64 x.ln,.int .i64 x.ld,.int .i64 x.mn,.int .i64 x.md,.int .i64 x.policy] 27):=⟨_,rfl⟩
 obtain ⟨hbW1,fO,g0,g1,g2,g3,g4,g5,g6,g7,g8,g9,g10,g11,g12,g13⟩:=dE hW1 rfl
 rw[<-hW1]
 clear hW1
 have HQ:=hide (HQ.out.below hbW1)
 have HC:=hide (HC.out.below hbW1)
 have HR:=hide (HR.out.below hbW1)
 have HZ:=hide (HZ.out.below hbW1)
 have oO:=hide hbW1
 clear hbW1
 have LR:=lt_of_cell g0
 refine (HE.out _ HQ.out HC.out HR.out HZ.out).mono ?_
 rintro e w4 ⟨rfl,hb4⟩
 obtain ⟨g0,g1,g2,g3,g4,g5,g6,g7,g8,g9,g10,g11,g12,g13,LR⟩:=eB hb4 LR g0 g1 g2 g3 g4 g5 g6 g7 g8 g9 g10 g11 g12 g13
 have nZ:=hide (aa oO.out hb4)
 clear hb4
 clear g1 g2 g3 g4 g5 g6 g7 g8 g9 g10 g11 g12 g13
 by_cases h0:ee=0
 ·subst h0
  go_wp2_with fail
  refine (qc ⟨vk,vn,vs⟩ HV.out _).mono ?_
  rintro e w3 ⟨rfl,hb3⟩
  have HB3:=hide (aa nZ.out (aa af hb3))
  obtain ⟨T,hT⟩: ∃T,truth ⟨vk,vn,vs⟩=T:=⟨_,rfl⟩
  rw[hT]at HD⊢
  clear hT hb3
  go_wp2
  go_ret
  exact ⟨ay (by rw[HD.out];simp),HB3.out⟩
 ·have q:(ee==0)=false:=by simpa using h0
  obtain rfl:R=false:=by rw[HD.out,q];rfl
  have HB3:=hide (aa nZ.out (af (o:=.cells #[.int .i64 vk,.int .i64 vn,.string vs] 74)))
  go_wp2
  all_goals (try (exfalso;go_light;simp_all;done))
  go_ret
  exact ⟨rfl,HB3.out⟩
theorem BI (w:World)(nm:ByteArray)(A:Option Addr)(n c:Nat)(cols:List Col)(hc:In w A n c cols)(A':Option Addr)(n' c':Nat)(A2:Option Addr)(n2 c2:Nat)(rows:List Ent)(hr:In w A2 n2 c2 rows):
  Calls Tryz.prog 81 #[.agg #[.string nm,.slice A n c,.slice A' n' c',.slice A2 n2 c2]] w λe w'=>e=.returned (.int .i64 (eH cols rows))/\Below w.heap.size w w':=by
 have HD:=hide (show eH cols rows=if aX rows≠0 then aX rows else if gU rows=false then 8 else aj (λ_ x=>aS cols x.row) 0 rows from rfl)
 obtain ⟨R,hR⟩: ∃R,eH cols rows=R:=⟨_,rfl⟩
 rw[hR]at HD
 rw[hR]
 clear hR
 have h63:=hr.le
 go_enter Tryz.func81,Tryz.ntmps81
 have HC:=hide hc
 clear hc
 have HR:=hide hr
 clear hr
 go_wp2_with fail
 obtain ⟨W1,hW1⟩: ∃W,W=w.alloc (.cells #[.string nm,.slice A n c,.slice A' n' c',.slice A2 n2 c2] 32):=⟨_,rfl⟩
 obtain ⟨hbW1,fO,g0,g1,g2,g3⟩:=pE hW1 rfl
 rw[<-hW1]
 clear hW1
 have HC:=hide (HC.out.below hbW1)
 have HR:=hide (HR.out.below hbW1)
 have uw:=hide hbW1
 clear hbW1
 have LR:=lt_of_cell g0
 obtain ⟨B,hB⟩: ∃B,aX rows=B:=⟨_,rfl⟩
 have V9:=hide hB
 obtain ⟨T,hT⟩: ∃T,gU rows=T:=⟨_,rfl⟩
 have WH:=hide hT
 rw[hB,hT]at HD
 clear hB hT
 refine (Hy _ A2 n2 c2 rows HR.out).mono ?_
 rintro e w7 ⟨rfl,dC⟩
 have HC:=hide (HC.out.below dC)
 have HR:=hide (HR.out.below dC)
 obtain ⟨g0,g1,g2,g3,LR⟩:=qH dC LR g0 g1 g2 g3
 have mf:=hide (aa uw.out dC)
 clear dC
 rw[V9.out]
 by_cases h0:B=0
 ·subst h0
  go_wp2_with fail
  refine (Et _ A2 n2 c2 rows HR.out).mono ?_
  rintro e w9 ⟨rfl,gP⟩
  have HC:=hide (HC.out.below gP)
  have HR:=hide (HR.out.below gP)
  obtain ⟨g0,g1,g2,g3,LR⟩:=qH gP LR g0 g1 g2 g3
  have fZ:=hide (aa mf.out gP)
  clear gP
  rw[WH.out]
  cases T
  ·obtain rfl:R=8:=by rw[HD.out];simp
   go_wp2
   all_goals (try (exfalso;go_light;simp_all;done))
   go_ret
   exact ⟨rfl,fZ.out⟩
  ·have HD2:Hid (R=aj (λ_ x=>aS cols x.row) 0 rows):=hide (by rw[HD.out];simp)
   obtain ⟨W3,rfl⟩: ∃W,W=w9:=⟨_,rfl⟩
   go_wp2
   go_loopw [4] (λi wr=> ∃k:Nat,k<=n2/\i=.int .i64 k/\aj (λ_ x=>aS cols x.row) 0 rows=aj (λ_ x=>aS cols x.row) k (rows.drop k)/\Below W3.heap.size W3 wr) (λi _=>n2-(RowKit.intOf i).toNat)
   case atStart=>exact ⟨0,Nat.zero_le _,rfl,rfl,Below.refl _ _⟩
   case round=>
    obtain ⟨k,hk,rfl,heq,hb⟩:=hrel
    have HE:=hide heq
    clear heq
    have HC:=hide (HC.out.below hb)
    have HR:=hide (HR.out.below hb)
    obtain ⟨g0,g1,g2,g3,LR⟩:=qH hb LR g0 g1 g2 g3
    have jV:=hide hb
    clear hb
    by_cases hlt:k<n2
    ·obtain ⟨b,off,y,rfl,hBb,HX,Ax,An,Ac,e0,e1,e2,e3⟩:=HR.out.ent hlt
     have k0:(0:Int)<=(k:Int):=by omega
     have k1:(k:Int)<(n2:Int):=by omega
     have HI:=hide e2
     have yj:=hide hBb
     have E0:=hide e0
     have G1:=hide g1
     have G3:=hide g3
     clear e1 e2
     have l9:=hide jV.out
     have jk:=hide (aa fZ.out jV.out)
     go_wp2
     go_region_held3 (λV=>V.cell? ⟨w.heap.size,1,none⟩=some (.slice A n c)/\V.cell? ⟨w.heap.size,3,none⟩=some (.slice (some ⟨b,off,none⟩) n2 c2)/\V.cell? ⟨b,off+k*2,none⟩=some (.slice Ax An Ac))
      (first|exact ⟨ah qp.out LR G1.out,ah qp.out LR G3.out,ah qp.out yj.out E0.out⟩|exact ⟨g1,g3,e0⟩|go_keep)
      (first|(go_at_call 122;refine (uH _ A Ax n An c Ac cols y.row (by exact HC.out.below (Below.refl _ _).drew) (by exact HI.out.below (Below.refl _ _).drew)).mono ?_;rintro e w9 ⟨rfl,gP⟩;have qp:=hide (ag gP);clear gP))
     have xR:=hide (aa l9.out qp.out)
     have YK:=hide (aa jk.out qp.out)
     by_cases hz:aS cols y.row=0
     ·rw[hz]
      have HN:Hid (aj (λ_ x=>aS cols x.row) 0 rows=aj (λ_ x=>aS cols x.row) (k+1) (rows.drop (k+1))):=hide (by rw[HE.out,HX.out];exact bJ hz)
      go_wp2
      go_roundw
      case rel=>exact ⟨k+1,by omega,by go_num,HN.out,xR.out⟩
      case measure=>simp[RowKit.intOf];omega
     ·have hz':(aS cols y.row != 0)=true:=by simpa using hz
      obtain rfl:R=aS cols y.row:=by rw[HD2.out,HE.out,HX.out];exact aT rfl hz
      go_wp2
      all_goals (try (exfalso;go_light;simp_all;done))
      go_ret
      exact ⟨rfl,YK.out⟩
    ·obtain rfl:R=0:=by rw[HD2.out,HE.out,aP HR.out.len (by omega),aj]
     go_wp2
     all_goals (try (exfalso;go_light;simp_all;done))
     go_ret
     exact ⟨rfl,(aa fZ.out jV.out)⟩
 ·have q0:(B != 0)=true:=by simpa using h0
  obtain rfl:R=B:=by rw[HD.out];simp[h0]
  go_wp2
  all_goals (try (exfalso;go_light;simp_all;done))
  go_ret
  exact ⟨rfl,mf.out⟩
def jQ (x:Chk):Prop:=¬(x.kind<0\/6<x.kind\/x.policy<0\/2<x.policy)/\¬(x.policy=0/\(x.kind=5\/x.kind=6))
theorem jQ.dec {x:Chk}(h:jQ x):decide (x.kind<0)=false/\decide (6<x.kind)=false/\decide (x.policy<0)=false/\decide (2<x.policy)=false:=by
 obtain ⟨h1,_⟩:=h
 refine ⟨?_,?_,?_,?_⟩ <;> simp <;> omega
theorem zT (w:World)(x:Chk)(A:Option Addr)(n c:Nat)(A':Option Addr)(n' c':Nat)(aY:Option Addr)(n'' c'':Nat)(a1 a2 a5:Value)(h:¬jQ x)(cols ocols:List Col)(zs:List Zone):
  Calls Tryz.prog 80 #[.agg (ax x A n c A' n' c' aY n'' c'').toArray,a1,a2,a5] w λe w'=>e=.returned (.int .i64 (bu x cols ocols zs))/\Below w.heap.size w w':=by
 have hA:(decide (x.kind<0)=true/\bu x cols ocols zs=1)\/(decide (x.kind<0)=false/\decide (6<x.kind)=true/\bu x cols ocols zs=1)\/(decide (x.kind<0)=false/\decide (6<x.kind)=false/\decide (x.policy<0)=true/\bu x cols ocols zs=1)
   \/(decide (x.kind<0)=false/\decide (6<x.kind)=false/\decide (x.policy<0)=false/\decide (2<x.policy)=true/\bu x cols ocols zs=1)
   \/(decide (x.kind<0)=false/\decide (6<x.kind)=false/\decide (x.policy<0)=false/\decide (2<x.policy)=false/\(((x.policy==0)=true/\(x.kind==5)=true/\bu x cols ocols zs=7)\/((x.policy==0)=true/\(x.kind==5)=false/\(x.kind==6)=true/\bu x cols ocols zs=7))):=by
  by_cases a1:x.kind<0
  ·exact .inl ⟨by simpa using a1,by rw[bu,if_pos (.inl a1)]⟩
  by_cases a2:6<x.kind
  ·exact .inr (.inl ⟨by simpa using a1,by simpa using a2,by rw[bu,if_pos (.inr (.inl a2))]⟩)
  by_cases a3:x.policy<0
  ·exact .inr (.inr (.inl ⟨by simpa using a1,by simpa using a2,by simpa using a3,by rw[bu,if_pos (.inr (.inr (.inl a3)))]⟩))
  by_cases a4:2<x.policy
  ·exact .inr (.inr (.inr (.inl ⟨by simpa using a1,by simpa using a2,by simpa using a3,by simpa using a4,by rw[bu,if_pos (.inr (.inr (.inr a4)))]⟩)))
  have b:¬(x.kind<0\/6<x.kind\/x.policy<0\/2<x.policy):=by omega
  have d:x.policy=0/\(x.kind=5\/x.kind=6):=by
   rw[jQ]at h
   exact Classical.byContradiction λq=>h ⟨b,q⟩
  refine .inr (.inr (.inr (.inr ⟨by simpa using a1,by simpa using a2,by simpa using a3,by simpa using a4,?_⟩)))
  by_cases a6:x.kind=5
  ·exact .inl ⟨by simpa using d.1,by simpa using a6,by rw[bu,if_neg b,if_pos d]⟩
  ·exact .inr ⟨by simpa using d.1,by simpa using a6,by have:=d.2;simp;omega,by rw[bu,if_neg b,if_pos d]⟩
 clear h
 generalize bu x cols ocols zs=R at*
 simp only[ax]
 rcases hA with ⟨d1,rfl⟩|⟨d1,d2,rfl⟩|⟨d1,d2,d3,rfl⟩|⟨d1,d2,d3,d4,rfl⟩|⟨d1,d2,d3,d4,⟨d5,d6,rfl⟩|⟨d5,d6,d7,rfl⟩⟩
 ·go_enter Tryz.func80,Tryz.ntmps80
  go_wp2_with fail
  obtain ⟨W1,hW1⟩: ∃W,W=w.alloc (.cells #[.string x.name,.string x.table,.int .i64 x.kind,.slice A n c,.string x.other,.slice A' n' c',.int .i64 x.low,.int .i64 x.high,.slice aY n'' c'',.int .i64 x.ln,.int .i64 x.ld,.int .i64 x.mn,.int .i64 x.md,.int .i64 x.policy] 27):=⟨_,rfl⟩
  obtain ⟨hbW1,fO,g0,g1,g2,g3,g4,g5,g6,g7,g8,g9,g10,g11,g12,g13⟩:=dE hW1 rfl
  rw[<-hW1]
  clear hW1
  have qA:=hide hbW1
  clear hbW1
  have LR:=lt_of_cell g0
  go_wp2
  all_goals (try (exfalso;go_light;simp_all;done))
  go_ret
  exact ⟨rfl,qA.out⟩
 ·go_enter Tryz.func80,Tryz.ntmps80
  go_wp2_with fail
  obtain ⟨W1,hW1⟩: ∃W,W=w.alloc (.cells #[.string x.name,.string x.table,.int .i64 x.kind,.slice A n c,.string x.other,.slice A' n' c',.int .i64 x.low,.int .i64 x.high,.slice aY n'' c'',.int .i64 x.ln,.int .i64 x.ld,.int .i64 x.mn,.int .i64 x.md,.int .i64 x.policy] 27):=⟨_,rfl⟩
  obtain ⟨hbW1,fO,g0,g1,g2,g3,g4,g5,g6,g7,g8,g9,g10,g11,g12,g13⟩:=dE hW1 rfl
  rw[<-hW1]
  clear hW1
  have fK:=hide hbW1
  clear hbW1
  have LR:=lt_of_cell g0
  go_wp2
  all_goals (try (exfalso;go_light;simp_all;done))
  go_ret
  exact ⟨rfl,fK.out⟩
 ·go_enter Tryz.func80,Tryz.ntmps80
  go_wp2_with fail
  obtain ⟨W1,hW1⟩: ∃W,W=w.alloc (.cells #[.string x.name,.string x.table,.int .i64 x.kind,.slice A n c,.string x.other,.slice A' n' c',.int .i64 x.low,.int .i64 x.high,.slice aY n'' c'',.int .i64 x.ln,.int .i64 x.ld,.int .i64 x.mn,.int .i64 x.md,.int .i64 x.policy] 27):=⟨_,rfl⟩
  obtain ⟨hbW1,fO,g0,g1,g2,g3,g4,g5,g6,g7,g8,g9,g10,g11,g12,g13⟩:=dE hW1 rfl
  rw[<-hW1]
  clear hW1
  have oO:=hide hbW1
  clear hbW1
  have LR:=lt_of_cell g0
  go_wp2
  all_goals (try (exfalso;go_light;simp_all;done))
  go_ret
  exact ⟨rfl,oO.out⟩
 ·go_enter Tryz.func80,Tryz.ntmps80
  go_wp2_with fail
  obtain ⟨W1,hW1⟩: ∃W,W=w.alloc (.cells #[.string x.name,.string x.table,.int .i64 x.kind,.slice A n c,.string x.other,.slice A' n' c',.int .i64 x.low,.int .i64 x.high,.slice aY n'' c'',.int .i64 x.ln,.int .i64 x.ld,.int .i64 x.mn,.int .i64 x.md,.int .i64 x.policy] 27):=⟨_,rfl⟩
  obtain ⟨hbW1,fO,g0,g1,g2,g3,g4,g5,g6,g7,g8,g9,g10,g11,g12,g13⟩:=dE hW1 rfl
  rw[<-hW1]
  clear hW1
  have jH:=hide hbW1
  clear hbW1
  have LR:=lt_of_cell g0
  go_wp2
  all_goals (try (exfalso;go_light;simp_all;done))
  go_ret
  exact ⟨rfl,jH.out⟩
 ·go_enter Tryz.func80,Tryz.ntmps80
  go_wp2_with fail
  obtain ⟨W1,hW1⟩: ∃W,W=w.alloc (.cells #[.string x.name,.string x.table,.int .i64 x.kind,.slice A n c,.string x.other,.slice A' n' c',.int .i64 x.low,.int .i64 x.high,.slice aY n'' c'',.int .i64 x.ln,.int .i64 x.ld,.int .i64 x.mn,.int .i64 x.md,.int .i64 x.policy] 27):=⟨_,rfl⟩
  obtain ⟨hbW1,fO,g0,g1,g2,g3,g4,g5,g6,g7,g8,g9,g10,g11,g12,g13⟩:=dE hW1 rfl
  rw[<-hW1]
  clear hW1
  have nZ:=hide hbW1
  clear hbW1
  have LR:=lt_of_cell g0
  go_wp2
  all_goals (try (exfalso;go_light;simp_all;done))
  go_ret
  exact ⟨rfl,nZ.out⟩
 ·go_enter Tryz.func80,Tryz.ntmps80
  go_wp2_with fail
  obtain ⟨W1,hW1⟩: ∃W,W=w.alloc (.cells #[.string x.name,.string x.table,.int .i64 x.kind,.slice A n c,.string x.other,.slice A' n' c',.int .i64 x.low,.int .i64 x.high,.slice aY n'' c'',.int .i64 x.ln,.int .i64 x.ld,.int .i64 x.mn,.int .i64 x.md,.int .i64 x.policy] 27):=⟨_,rfl⟩
  obtain ⟨hbW1,fO,g0,g1,g2,g3,g4,g5,g6,g7,g8,g9,g10,g11,g12,g13⟩:=dE hW1 rfl
  rw[<-hW1]
  clear hW1
  have uw:=hide hbW1
  clear hbW1
  have LR:=lt_of_cell g0
  go_wp2
  all_goals (try (exfalso;go_light;simp_all;done))
  go_ret
  exact ⟨rfl,uw.out⟩
section
variable (w:World)(x:Chk)(A:Option Addr)(n c:Nat)(hn:In w A n c x.cols)(A':Option Addr)(n' c':Nat)(hn':In w A' n' c' x.ocols)(aY:Option Addr)(n'' c'':Nat)(hq:In w aY n'' c'' x.cond)(A1:Option Addr)(n1 c1:Nat)(cols:List Col)(hc:In w A1 n1 c1 cols)(A2:Option Addr)(n2 c2:Nat)(ocols:List Col)(ho:In w A2 n2 c2 ocols)(A5:Option Addr)(n5 c5:Nat)(zs:List Zone)
include w x A n c hn A' n' c' hn' aY n'' c'' hq A1 n1 c1 cols hc A2 n2 c2 ocols ho A5 n5 c5 zs
theorem vw (hz:In w A5 n5 c5 zs)(hb0:n<=4096)(hb1:n'<=4096)(hb2:n1<=4096)(hb3:n2<=4096)(hp:jQ x)(h4:¬x.kind=4)(h5:¬x.kind=5)(hw:(((x.policy==0)=true/\(x.kind==6)=false/\(x.kind==2)=true)\/((x.policy==0)=false/\(x.kind==2)=true))):
  Calls Tryz.prog 80 #[.agg (ax x A n c A' n' c' aY n'' c'').toArray,.slice A1 n1 c1,.slice A2 n2 c2,.slice A5 n5 c5] w λe w'=>e=.returned (.int .i64 (bu x cols ocols zs))/\Below w.heap.size w w':=by
 have _:=hq
 rcases hw with ⟨p0,h6,h2⟩|⟨p0,h2⟩
 all_goals (
  have HD0:=hide (show bu x cols ocols zs=if aD cols≠0 then aD cols else jA x cols ocols from by
   rw[iN x cols ocols zs hp.1 hp.2]
   have:iE x.kind=false:=by rw[iE];simp[h4,h5]
   rw[this];simp)
  rw[pI x cols ocols]at HD0
  have HI1:=hide λW hx hy=>jo W A1 n1 c1 cols hx A n c x.cols hy (by omega) (by omega)
  have HI2:=hide λW hx hy=>jo W A2 n2 c2 ocols hx A' n' c' x.ocols hy (by omega) (by omega)
  have HR1:=hide (λh=>lH (cols:=cols) (names:=x.cols) h)
  have HR2:=hide (λh=>lH (cols:=ocols) (names:=x.ocols) h)
  have ym:=hide (Nat.le_trans (jM cols x.cols) (by rw[hn.len];exact hb0))
  have yo:=hide (Nat.le_trans (jM ocols x.ocols) (by rw[hn'.len];exact hb1))
  have Iz:=hide hc.len
  have sJ:=hide ho.len
  obtain ⟨R,hR⟩: ∃R,bu x cols ocols zs=R:=⟨_,rfl⟩
  obtain ⟨I1,hI1⟩: ∃I,bD cols x.cols=I:=⟨_,rfl⟩
  obtain ⟨I2,hI2⟩: ∃I,bD ocols x.ocols=I:=⟨_,rfl⟩
  obtain ⟨U,hU⟩: ∃U,iL x.kind=U:=⟨_,rfl⟩
  rw[hR,hI1,hI2,hU]at HD0
  rw[hI1]at HI1 HR1 ym
  rw[hI2]at HI2 HR2 yo
  rw[hR]
  have HU:=hide hU
  clear hR hI1 hI2 hU
  obtain ⟨ie,is⟩:=I1
  obtain ⟨oe,os⟩:=I2
  simp only at HD0 HI1 HI2 HR1 HR2 ym yo
  obtain ⟨K0,Gd⟩: ∃K,(cols.getD (is.getD 0 0).toNat default).kind=K:=⟨_,rfl⟩
  rw[Gd]at HD0
  have NG:=hide Gd
  clear Gd
  obtain ⟨CE,Cy⟩: ∃CE,aD ocols=CE:=⟨_,rfl⟩
  rw[Cy]at HD0
  have J5:=hide Cy
  obtain ⟨C1,yS⟩: ∃CE,aD cols=CE:=⟨_,rfl⟩
  rw[yS]at HD0
  have Ki:=hide yS
  obtain ⟨sg,hsg⟩: ∃s,(x.kind==2 || x.kind==6)=s:=⟨_,rfl⟩
  rw[hsg]at HD0
  clear Cy yS
  obtain rfl:sg=true:=by rw[<-hsg,h2];rfl
  obtain ⟨d1,d2,d3,d4⟩:=hp.dec
  have e4:(x.kind==4)=false:=by simpa using h4
  have e5:(x.kind==5)=false:=by simpa using h5
  clear hsg h4 h5 hp
  simp only[ax]
  go_enter Tryz.func80,Tryz.ntmps80
  have HN:=hide hn
  clear hn
  have eT:=hide hn'
  clear hn'
  have HC:=hide hc
  clear hc
  have HO:=hide ho
  clear ho
  go_wp2_with fail
  obtain ⟨W1,hW1⟩: ∃W,W=w.alloc (.cells #[.string x.name,.string x.table,.int .i64 x.kind,.slice A n c,.string x.other,.slice A' n' c',.int .i64 x.low,.int .i64 x.high,.slice aY n'' c'',.int .i64 x.ln,.int .i64 x.ld,.int .i64 x.mn,.int .i64 x.md,.int .i64 x.policy] 27):=⟨_,rfl⟩
  obtain ⟨hbW1,fO,g0,g1,g2,g3,g4,g5,g6,g7,g8,g9,g10,g11,g12,g13⟩:=dE hW1 rfl
  rw[<-hW1]
  clear hW1
  have HN:=hide (HN.out.below hbW1)
  have eT:=hide (eT.out.below hbW1)
  have HC:=hide (HC.out.below hbW1)
  have HO:=hide (HO.out.below hbW1)
  have kv:=hide hbW1
  clear hbW1
  have LR:=lt_of_cell g0
  go_wp2_with fail
  refine (jJ _ A1 n1 c1 cols HC.out).mono ?_
  rintro e w6 ⟨rfl,rfl⟩
  rw[Ki.out]
  by_cases hc1:C1=0
  rotate_left
  ·have q0:(C1 != 0)=true:=by simpa using hc1
   obtain rfl:R=C1:=by rw[HD0.out,if_pos hc1]
   go_wp2
   all_goals (try (exfalso;go_light;simp_all;done))
   go_ret
   exact ⟨rfl,kv.out⟩
  subst hc1
  have HD:=hide (show R=bZ true U ie is K0 CE oe os ((List.zip is os).any (mV cols ocols)) from by rw[HD0.out];simp)
  go_wp2_with fail
  refine (HI1.out _ (by exact HC.out) (by exact HN.out)).mono ?_
  rintro e w1 ⟨⟨v,rfl,hov⟩,hb1⟩
  obtain ⟨A4,c4,rfl⟩:=hov.form
  obtain ⟨m,hm⟩: ∃m,is.length=m:=⟨_,rfl⟩
  have ze:=gD hov rfl
  rw[hm]at ze⊢
  have HM:=hide hm
  clear hov hm
  have HN:=hide (HN.out.below hb1)
  have eT:=hide (eT.out.below hb1)
  have HC:=hide (HC.out.below hb1)
  have HO:=hide (HO.out.below hb1)
  obtain ⟨g0,g1,g2,g3,g4,g5,g6,g7,g8,g9,g10,g11,g12,g13,LR⟩:=eB hb1 LR g0 g1 g2 g3 g4 g5 g6 g7 g8 g9 g10 g11 g12 g13
  have mf:=hide (aa kv.out hb1)
  clear hb1
  have HK:=hide ze
  clear ze
  by_cases h0:ie=0
  rotate_left
  ·have q0:(ie != 0)=true:=by simpa using h0
   obtain rfl:R=ie:=by rw[HD.out,bZ,if_pos h0]
   go_wp2
   all_goals (try (exfalso;go_light;simp_all;done))
   go_ret
   exact ⟨rfl,mf.out⟩
  subst h0
  by_cases hmz:m=0
  ·subst hmz
   obtain rfl:R=8:=by rw[HD.out,bZ];simp[HM.out]
   go_wp2
   all_goals (try (exfalso;go_light;simp_all;done))
   go_ret
   exact ⟨rfl,mf.out⟩
  have qz:((m:Int)==0)=false:=by simpa using hmz
  have oU:=hide hmz
  by_cases hm1:1<m
  ·have q1:decide (1<(m:Int))=true:=by simp;omega
   obtain rfl:R=8:=by rw[HD.out,bZ];simp[HM.out,hm1]
   go_wp2
   all_goals (try (exfalso;go_light;simp_all;done))
   go_ret
   exact ⟨rfl,mf.out⟩
  have q1:decide (1<(m:Int))=false:=by simp;omega
  have uh:=hide hm1
  obtain ⟨b0,o0,j0,rfl,qy,HX0,e0,_⟩:=HK.out.int (k:=0) (by omega)
  rw[Nat.add_zero]at e0
  have hr0:=HR1.out (by first|rfl|trivial) j0 (aM HX0.out)
  rw[Iz.out]at hr0
  obtain ⟨i0,rfl⟩: ∃i:Nat,j0=(i:Int):=⟨j0.toNat,by omega⟩
  obtain ⟨bc,oc,y0,rfl,Ri,HZ0,_,p0,_,_⟩:=HC.out.col (k:=i0) (by omega)
  have XQ:(0:Int)<=(i0:Int):=by omega
  have XR:(i0:Int)<(n1:Int):=hr0.2
  have U7:(0:Int)<(m:Int):=by omega
  obtain ⟨k5,hk5⟩: ∃q,y0.kind=q:=⟨_,rfl⟩
  have e5:K0=k5:=by
   rw[<-NG.out,dW HX0.out,<-hk5]
   simp only[Int.toNat_natCast]
   rw[dW HZ0.out]
  rw[hk5]at p0
  subst e5
  clear hk5 hr0 HX0 HZ0
  by_cases hk2:K0=2
  rotate_left
  ·have q2:(K0 != 2)=true:=by simpa using hk2
   obtain rfl:R=7:=by rw[HD.out,bZ];simp[HM.out,oU.out,uh.out,hk2]
   go_wp2
   all_goals (try (exfalso;go_light;simp_all;done))
   go_ret
   exact ⟨rfl,mf.out⟩
  subst hk2
  have q2:((2:Int) != 2)=false:=by decide
  go_wp2_with fail
  refine (sF _ x A n c A' n' c' aY n'' c'').mono ?_
  rintro e w9 ⟨rfl,gP⟩
  have HN:=hide (HN.out.below gP)
  have eT:=hide (eT.out.below gP)
  have HC:=hide (HC.out.below gP)
  have HO:=hide (HO.out.below gP)
  have HK:=hide (HK.out.below gP)
  obtain ⟨g0,g1,g2,g3,g4,g5,g6,g7,g8,g9,g10,g11,g12,g13,LR⟩:=eB gP LR g0 g1 g2 g3 g4 g5 g6 g7 g8 g9 g10 g11 g12 g13
  have fZ:=hide (aa mf.out gP)
  clear gP
  rw[HU.out]
  cases U
  ·obtain rfl:R=0:=by rw[HD.out,bZ];simp[HM.out,oU.out,uh.out]
   go_wp2
   all_goals (try (exfalso;go_light;simp_all;done))
   go_ret
   exact ⟨rfl,fZ.out⟩
  go_wp2_with fail
  refine (jJ _ A2 n2 c2 ocols HO.out).mono ?_
  rintro e w6 ⟨rfl,rfl⟩
  rw[J5.out]
  by_cases hce:CE=0
  ·subst hce
   go_wp2_with fail
   refine (HI2.out _ (by exact HO.out) (by exact eT.out)).mono ?_
   rintro e w7 ⟨⟨v2,rfl,mO⟩,dC⟩
   obtain ⟨A5,c5,rfl⟩:=mO.form
   obtain ⟨m2,hm2⟩: ∃m,os.length=m:=⟨_,rfl⟩
   have yZ:=gD mO rfl
   rw[hm2]at yZ⊢
   have vD:=hide hm2
   clear mO hm2
   have HN:=hide (HN.out.below dC)
   have HC:=hide (HC.out.below dC)
   have HO:=hide (HO.out.below dC)
   have HK:=hide (HK.out.below dC)
   obtain ⟨g0,g1,g2,g3,g4,g5,g6,g7,g8,g9,g10,g11,g12,g13,LR⟩:=eB dC LR g0 g1 g2 g3 g4 g5 g6 g7 g8 g9 g10 g11 g12 g13
   have jV:=hide (aa fZ.out dC)
   clear dC
   have wG:=hide yZ
   clear yZ
   by_cases hoe:oe=0
   ·subst hoe
    by_cases hmm:m=m2
    ·subst hmm
     have HD2:Hid (R=if (List.zip is os).any (mV cols ocols)=true then 7 else 0):=hide (by rw[HD.out,bZ];simp[HM.out,oU.out,uh.out,vD.out])
     obtain ⟨W5,rfl⟩: ∃W,W=w7:=⟨_,rfl⟩
     have h63:=HK.out.le
     go_wp2
     go_loopw [20] (λi wr=> ∃k:Nat,k<=m/\i=.int .i64 k/\(List.zip is os).any (mV cols ocols)=((List.zip is os).drop k).any (mV cols ocols)/\Below W5.heap.size W5 wr) (λi _=>m-(RowKit.intOf i).toNat)
     case atStart=>exact ⟨0,Nat.zero_le _,rfl,rfl,Below.refl _ _⟩
     case round=>
      obtain ⟨k,hk,rfl,heq,hb⟩:=hrel
      have HE:=hide heq
      clear heq
      have HN:=hide (HN.out.below hb)
      have HC:=hide (HC.out.below hb)
      have HO:=hide (HO.out.below hb)
      have HK:=hide (HK.out.below hb)
      have wG:=hide (wG.out.below hb)
      obtain ⟨g0,g1,g2,g3,g4,g5,g6,g7,g8,g9,g10,g11,g12,g13,LR⟩:=eB hb LR g0 g1 g2 g3 g4 g5 g6 g7 g8 g9 g10 g11 g12 g13
      have ji:=hide hb
      clear hb
      clear g0 g1 g2 g3 g4 g5 g6 g7 g8 g9 g10 g11 g12 g13
      by_cases hlt:k<m
      ·obtain ⟨b,off,j1,uO,hBb,HX,e0,_⟩:=HK.out.int hlt
       first|(subst uO)|(injection uO with uO;injection uO with hA5 hA6;subst hA5;subst hA6)
       obtain ⟨b2,JE,j2,rfl,Jj,HY,f0,_⟩:=wG.out.int hlt
       have hr1:=HR1.out (by first|rfl|trivial) j1 (aM HX.out)
       have hr2:=HR2.out (by first|rfl|trivial) j2 (aM HY.out)
       rw[Iz.out]at hr1
       rw[sJ.out]at hr2
       obtain ⟨i1,rfl⟩: ∃i:Nat,j1=(i:Int):=⟨j1.toNat,by omega⟩
       obtain ⟨i2,rfl⟩: ∃i:Nat,j2=(i:Int):=⟨j2.toNat,by omega⟩
       obtain ⟨b3,Db,y1,hA1,LU,HZ1,_,p1,_,_⟩:=HC.out.col (k:=i1) (by omega)
       first|(subst hA1)|(injection hA1 with hA1;injection hA1 with hA7 hA8;subst hA7;subst hA8)
       obtain ⟨b4,ML,y2,rfl,LV,HZ2,_,q1,_,_⟩:=HO.out.col (k:=i2) (by omega)
       have DC:Hid ((List.zip is os).drop k=((i1:Int),(i2:Int)) :: (List.zip is os).drop (k+1)):=hide (by
        rw[List.zip,List.drop_zipWith,HX.out,HY.out,List.zipWith_cons_cons,List.drop_zipWith])
       have ui:Hid (mV cols ocols ((i1:Int),(i2:Int))=(y1.kind != y2.kind)):=hide (by
        rw[mV]
        simp only[Int.toNat_natCast]
        rw[dW HZ1.out,dW HZ2.out])
       have k0:(0:Int)<=(k:Int):=by omega
       have k1:(k:Int)<(m:Int):=by omega
       have UK:(0:Int)<=(i1:Int):=by omega
       have i11:(i1:Int)<(n1:Int):=hr1.2
       have i20:(0:Int)<=(i2:Int):=by omega
       have i21:(i2:Int)<(n2:Int):=hr2.2
       have jk:=hide ji.out
       have nP:=hide (aa jV.out ji.out)
       clear hr1 hr2 HZ1 HZ2 HX HY
       obtain ⟨k3,hk3⟩: ∃q,y1.kind=q:=⟨_,rfl⟩
       obtain ⟨k4,hk4⟩: ∃q,y2.kind=q:=⟨_,rfl⟩
       rw[hk3]at p1 ui
       rw[hk4]at q1 ui
       clear hk3 hk4
       go_wp2
       go_quiet (fail)
       by_cases hq:k3=k4
       ·subst hq
        have HN:Hid ((List.zip is os).any (mV cols ocols)=((List.zip is os).drop (k+1)).any (mV cols ocols)):=hide (by rw[HE.out,DC.out,List.any_cons,ui.out];simp)
        go_wp2
        all_goals (try (exfalso;go_light;simp_all;done))
        go_roundw
        case rel=>exact ⟨k+1,by omega,by go_num,HN.out,below_drewN jk.out _⟩
        case measure=>simp[RowKit.intOf];omega
       ·have hq2:(k3 != k4)=true:=by simpa using hq
        obtain rfl:R=7:=by rw[HD2.out,HE.out,DC.out,List.any_cons,ui.out,hq2];simp
        go_wp2
        all_goals (try (exfalso;go_light;simp_all;done))
        go_ret
        exact ⟨rfl,below_drewN nP.out _⟩
      ·obtain rfl:R=0:=by rw[HD2.out,HE.out,List.drop_eq_nil_of_le (by rw[List.length_zip,HM.out,vD.out];omega)];rfl
       have nP:=hide (aa jV.out ji.out)
       go_wp2
       all_goals (try (exfalso;go_light;simp_all;done))
       go_ret
       exact ⟨rfl,nP.out⟩
    ·have q5:((m:Int) != (m2:Int))=true:=by simp;omega
     obtain rfl:R=8:=by rw[HD.out,bZ];simp[HM.out,oU.out,uh.out,vD.out,hmm]
     go_wp2
     all_goals (try (exfalso;go_light;simp_all;done))
     go_ret
     exact ⟨rfl,jV.out⟩
   ·have q4:(oe != 0)=true:=by simpa using hoe
    obtain rfl:R=oe:=by rw[HD.out,bZ];simp[HM.out,oU.out,uh.out,hoe]
    go_wp2
    all_goals (try (exfalso;go_light;simp_all;done))
    go_ret
    exact ⟨rfl,jV.out⟩
  ·have q3:(CE != 0)=true:=by simpa using hce
   obtain rfl:R=CE:=by rw[HD.out,bZ];simp[HM.out,oU.out,uh.out,hce]
   go_wp2
   all_goals (try (exfalso;go_light;simp_all;done))
   go_ret
   exact ⟨rfl,fZ.out⟩)
theorem vz (hz:In w A5 n5 c5 zs)(hb0:n<=4096)(hb1:n'<=4096)(hb2:n1<=4096)(hb3:n2<=4096)(hp:jQ x)(h4:¬x.kind=4)(h5:¬x.kind=5)(hw:(((x.policy==0)=true/\(x.kind==6)=false/\(x.kind==2)=false)\/((x.policy==0)=false/\(x.kind==2)=false/\(x.kind==6)=false))):
  Calls Tryz.prog 80 #[.agg (ax x A n c A' n' c' aY n'' c'').toArray,.slice A1 n1 c1,.slice A2 n2 c2,.slice A5 n5 c5] w λe w'=>e=.returned (.int .i64 (bu x cols ocols zs))/\Below w.heap.size w w':=by
 have _:=hq
 rcases hw with ⟨p0,h6,h2⟩|⟨p0,h2,h6⟩
 all_goals (
  have HD0:=hide (show bu x cols ocols zs=if aD cols≠0 then aD cols else jA x cols ocols from by
   rw[iN x cols ocols zs hp.1 hp.2]
   have:iE x.kind=false:=by rw[iE];simp[h4,h5]
   rw[this];simp)
  rw[pI x cols ocols]at HD0
  have HI1:=hide λW hx hy=>jo W A1 n1 c1 cols hx A n c x.cols hy (by omega) (by omega)
  have HI2:=hide λW hx hy=>jo W A2 n2 c2 ocols hx A' n' c' x.ocols hy (by omega) (by omega)
  have HR1:=hide (λh=>lH (cols:=cols) (names:=x.cols) h)
  have HR2:=hide (λh=>lH (cols:=ocols) (names:=x.ocols) h)
  have ym:=hide (Nat.le_trans (jM cols x.cols) (by rw[hn.len];exact hb0))
  have yo:=hide (Nat.le_trans (jM ocols x.ocols) (by rw[hn'.len];exact hb1))
  have Iz:=hide hc.len
  have sJ:=hide ho.len
  obtain ⟨R,hR⟩: ∃R,bu x cols ocols zs=R:=⟨_,rfl⟩
  obtain ⟨I1,hI1⟩: ∃I,bD cols x.cols=I:=⟨_,rfl⟩
  obtain ⟨I2,hI2⟩: ∃I,bD ocols x.ocols=I:=⟨_,rfl⟩
  obtain ⟨U,hU⟩: ∃U,iL x.kind=U:=⟨_,rfl⟩
  rw[hR,hI1,hI2,hU]at HD0
  rw[hI1]at HI1 HR1 ym
  rw[hI2]at HI2 HR2 yo
  rw[hR]
  have HU:=hide hU
  clear hR hI1 hI2 hU
  obtain ⟨ie,is⟩:=I1
  obtain ⟨oe,os⟩:=I2
  simp only at HD0 HI1 HI2 HR1 HR2 ym yo
  obtain ⟨K0,Gd⟩: ∃K,(cols.getD (is.getD 0 0).toNat default).kind=K:=⟨_,rfl⟩
  rw[Gd]at HD0
  have NG:=hide Gd
  clear Gd
  obtain ⟨CE,Cy⟩: ∃CE,aD ocols=CE:=⟨_,rfl⟩
  rw[Cy]at HD0
  have J5:=hide Cy
  obtain ⟨C1,yS⟩: ∃CE,aD cols=CE:=⟨_,rfl⟩
  rw[yS]at HD0
  have Ki:=hide yS
  obtain ⟨sg,hsg⟩: ∃s,(x.kind==2 || x.kind==6)=s:=⟨_,rfl⟩
  rw[hsg]at HD0
  clear Cy yS
  obtain rfl:sg=false:=by rw[<-hsg,h2,h6];rfl
  obtain ⟨d1,d2,d3,d4⟩:=hp.dec
  have e4:(x.kind==4)=false:=by simpa using h4
  have e5:(x.kind==5)=false:=by simpa using h5
  clear hsg h4 h5 hp
  simp only[ax]
  go_enter Tryz.func80,Tryz.ntmps80
  have HN:=hide hn
  clear hn
  have eT:=hide hn'
  clear hn'
  have HC:=hide hc
  clear hc
  have HO:=hide ho
  clear ho
  go_wp2_with fail
  obtain ⟨W1,hW1⟩: ∃W,W=w.alloc (.cells #[.string x.name,.string x.table,.int .i64 x.kind,.slice A n c,.string x.other,.slice A' n' c',.int .i64 x.low,.int .i64 x.high,.slice aY n'' c'',.int .i64 x.ln,.int .i64 x.ld,.int .i64 x.mn,.int .i64 x.md,.int .i64 x.policy] 27):=⟨_,rfl⟩
  obtain ⟨hbW1,fO,g0,g1,g2,g3,g4,g5,g6,g7,g8,g9,g10,g11,g12,g13⟩:=dE hW1 rfl
  rw[<-hW1]
  clear hW1
  have HN:=hide (HN.out.below hbW1)
  have eT:=hide (eT.out.below hbW1)
  have HC:=hide (HC.out.below hbW1)
  have HO:=hide (HO.out.below hbW1)
  have ut:=hide hbW1
  clear hbW1
  have LR:=lt_of_cell g0
  go_wp2_with fail
  refine (jJ _ A1 n1 c1 cols HC.out).mono ?_
  rintro e w6 ⟨rfl,rfl⟩
  rw[Ki.out]
  by_cases hc1:C1=0
  rotate_left
  ·have q0:(C1 != 0)=true:=by simpa using hc1
   obtain rfl:R=C1:=by rw[HD0.out,if_pos hc1]
   go_wp2
   all_goals (try (exfalso;go_light;simp_all;done))
   go_ret
   exact ⟨rfl,ut.out⟩
  subst hc1
  have HD:=hide (show R=bZ false U ie is K0 CE oe os ((List.zip is os).any (mV cols ocols)) from by rw[HD0.out];simp)
  go_wp2_with fail
  refine (HI1.out _ (by exact HC.out) (by exact HN.out)).mono ?_
  rintro e w1 ⟨⟨v,rfl,hov⟩,hb1⟩
  obtain ⟨A4,c4,rfl⟩:=hov.form
  obtain ⟨m,hm⟩: ∃m,is.length=m:=⟨_,rfl⟩
  have ze:=gD hov rfl
  rw[hm]at ze⊢
  have HM:=hide hm
  clear hov hm
  have HN:=hide (HN.out.below hb1)
  have eT:=hide (eT.out.below hb1)
  have HC:=hide (HC.out.below hb1)
  have HO:=hide (HO.out.below hb1)
  obtain ⟨g0,g1,g2,g3,g4,g5,g6,g7,g8,g9,g10,g11,g12,g13,LR⟩:=eB hb1 LR g0 g1 g2 g3 g4 g5 g6 g7 g8 g9 g10 g11 g12 g13
  have mW:=hide (aa ut.out hb1)
  clear hb1
  have HK:=hide ze
  clear ze
  by_cases h0:ie=0
  rotate_left
  ·have q0:(ie != 0)=true:=by simpa using h0
   obtain rfl:R=ie:=by rw[HD.out,bZ,if_pos h0]
   go_wp2
   all_goals (try (exfalso;go_light;simp_all;done))
   go_ret
   exact ⟨rfl,mW.out⟩
  subst h0
  by_cases hmz:m=0
  ·subst hmz
   obtain rfl:R=8:=by rw[HD.out,bZ];simp[HM.out]
   go_wp2
   all_goals (try (exfalso;go_light;simp_all;done))
   go_ret
   exact ⟨rfl,mW.out⟩
  have qz:((m:Int)==0)=false:=by simpa using hmz
  have oU:=hide hmz
  go_wp2_with fail
  refine (sF _ x A n c A' n' c' aY n'' c'').mono ?_
  rintro e w15 ⟨rfl,qZ⟩
  have HN:=hide (HN.out.below qZ)
  have eT:=hide (eT.out.below qZ)
  have HC:=hide (HC.out.below qZ)
  have HO:=hide (HO.out.below qZ)
  have HK:=hide (HK.out.below qZ)
  obtain ⟨g0,g1,g2,g3,g4,g5,g6,g7,g8,g9,g10,g11,g12,g13,LR⟩:=eB qZ LR g0 g1 g2 g3 g4 g5 g6 g7 g8 g9 g10 g11 g12 g13
  have mX:=hide (aa mW.out qZ)
  clear qZ
  rw[HU.out]
  cases U
  ·obtain rfl:R=0:=by rw[HD.out,bZ];simp[HM.out,oU.out]
   go_wp2
   all_goals (try (exfalso;go_light;simp_all;done))
   go_ret
   exact ⟨rfl,mX.out⟩
  go_wp2_with fail
  refine (jJ _ A2 n2 c2 ocols HO.out).mono ?_
  rintro e w6 ⟨rfl,rfl⟩
  rw[J5.out]
  by_cases hce:CE=0
  ·subst hce
   go_wp2_with fail
   refine (HI2.out _ (by exact HO.out) (by exact eT.out)).mono ?_
   rintro e w7 ⟨⟨v2,rfl,mO⟩,dC⟩
   obtain ⟨A5,c5,rfl⟩:=mO.form
   obtain ⟨m2,hm2⟩: ∃m,os.length=m:=⟨_,rfl⟩
   have yZ:=gD mO rfl
   rw[hm2]at yZ⊢
   have vD:=hide hm2
   clear mO hm2
   have HN:=hide (HN.out.below dC)
   have HC:=hide (HC.out.below dC)
   have HO:=hide (HO.out.below dC)
   have HK:=hide (HK.out.below dC)
   obtain ⟨g0,g1,g2,g3,g4,g5,g6,g7,g8,g9,g10,g11,g12,g13,LR⟩:=eB dC LR g0 g1 g2 g3 g4 g5 g6 g7 g8 g9 g10 g11 g12 g13
   have mY:=hide (aa mX.out dC)
   clear dC
   have wG:=hide yZ
   clear yZ
   by_cases hoe:oe=0
   ·subst hoe
    by_cases hmm:m=m2
    ·subst hmm
     have HD2:Hid (R=if (List.zip is os).any (mV cols ocols)=true then 7 else 0):=hide (by rw[HD.out,bZ];simp[HM.out,oU.out,vD.out])
     obtain ⟨W5,rfl⟩: ∃W,W=w7:=⟨_,rfl⟩
     have h63:=HK.out.le
     go_wp2
     go_loopw [20] (λi wr=> ∃k:Nat,k<=m/\i=.int .i64 k/\(List.zip is os).any (mV cols ocols)=((List.zip is os).drop k).any (mV cols ocols)/\Below W5.heap.size W5 wr) (λi _=>m-(RowKit.intOf i).toNat)
     case atStart=>exact ⟨0,Nat.zero_le _,rfl,rfl,Below.refl _ _⟩
     case round=>
      obtain ⟨k,hk,rfl,heq,hb⟩:=hrel
      have HE:=hide heq
      clear heq
      have HN:=hide (HN.out.below hb)
      have HC:=hide (HC.out.below hb)
      have HO:=hide (HO.out.below hb)
      have HK:=hide (HK.out.below hb)
      have wG:=hide (wG.out.below hb)
      obtain ⟨g0,g1,g2,g3,g4,g5,g6,g7,g8,g9,g10,g11,g12,g13,LR⟩:=eB hb LR g0 g1 g2 g3 g4 g5 g6 g7 g8 g9 g10 g11 g12 g13
      have tF:=hide hb
      clear hb
      clear g0 g1 g2 g3 g4 g5 g6 g7 g8 g9 g10 g11 g12 g13
      by_cases hlt:k<m
      ·obtain ⟨b,off,j1,uO,hBb,HX,e0,_⟩:=HK.out.int hlt
       first|(subst uO)|(injection uO with uO;injection uO with hA5 hA6;subst hA5;subst hA6)
       obtain ⟨b2,JE,j2,rfl,Jj,HY,f0,_⟩:=wG.out.int hlt
       have hr1:=HR1.out (by first|rfl|trivial) j1 (aM HX.out)
       have hr2:=HR2.out (by first|rfl|trivial) j2 (aM HY.out)
       rw[Iz.out]at hr1
       rw[sJ.out]at hr2
       obtain ⟨i1,rfl⟩: ∃i:Nat,j1=(i:Int):=⟨j1.toNat,by omega⟩
       obtain ⟨i2,rfl⟩: ∃i:Nat,j2=(i:Int):=⟨j2.toNat,by omega⟩
       obtain ⟨b3,Db,y1,hA1,LU,HZ1,_,p1,_,_⟩:=HC.out.col (k:=i1) (by omega)
       first|(subst hA1)|(injection hA1 with hA1;injection hA1 with hA7 hA8;subst hA7;subst hA8)
       obtain ⟨b4,ML,y2,rfl,LV,HZ2,_,q1,_,_⟩:=HO.out.col (k:=i2) (by omega)
       have DC:Hid ((List.zip is os).drop k=((i1:Int),(i2:Int)) :: (List.zip is os).drop (k+1)):=hide (by
        rw[List.zip,List.drop_zipWith,HX.out,HY.out,List.zipWith_cons_cons,List.drop_zipWith])
       have ui:Hid (mV cols ocols ((i1:Int),(i2:Int))=(y1.kind != y2.kind)):=hide (by
        rw[mV]
        simp only[Int.toNat_natCast]
        rw[dW HZ1.out,dW HZ2.out])
       have k0:(0:Int)<=(k:Int):=by omega
       have k1:(k:Int)<(m:Int):=by omega
       have UK:(0:Int)<=(i1:Int):=by omega
       have i11:(i1:Int)<(n1:Int):=hr1.2
       have i20:(0:Int)<=(i2:Int):=by omega
       have i21:(i2:Int)<(n2:Int):=hr2.2
       have jk:=hide tF.out
       have nP:=hide (aa mY.out tF.out)
       clear hr1 hr2 HZ1 HZ2 HX HY
       obtain ⟨k3,hk3⟩: ∃q,y1.kind=q:=⟨_,rfl⟩
       obtain ⟨k4,hk4⟩: ∃q,y2.kind=q:=⟨_,rfl⟩
       rw[hk3]at p1 ui
       rw[hk4]at q1 ui
       clear hk3 hk4
       go_wp2
       go_quiet (fail)
       by_cases hq:k3=k4
       ·subst hq
        have HN:Hid ((List.zip is os).any (mV cols ocols)=((List.zip is os).drop (k+1)).any (mV cols ocols)):=hide (by rw[HE.out,DC.out,List.any_cons,ui.out];simp)
        go_wp2
        all_goals (try (exfalso;go_light;simp_all;done))
        go_roundw
        case rel=>exact ⟨k+1,by omega,by go_num,HN.out,below_drewN jk.out _⟩
        case measure=>simp[RowKit.intOf];omega
       ·have hq2:(k3 != k4)=true:=by simpa using hq
        obtain rfl:R=7:=by rw[HD2.out,HE.out,DC.out,List.any_cons,ui.out,hq2];simp
        go_wp2
        all_goals (try (exfalso;go_light;simp_all;done))
        go_ret
        exact ⟨rfl,below_drewN nP.out _⟩
      ·obtain rfl:R=0:=by rw[HD2.out,HE.out,List.drop_eq_nil_of_le (by rw[List.length_zip,HM.out,vD.out];omega)];rfl
       have nP:=hide (aa mY.out tF.out)
       go_wp2
       all_goals (try (exfalso;go_light;simp_all;done))
       go_ret
       exact ⟨rfl,nP.out⟩
    ·have q5:((m:Int) != (m2:Int))=true:=by simp;omega
     obtain rfl:R=8:=by rw[HD.out,bZ];simp[HM.out,oU.out,vD.out,hmm]
     go_wp2
     all_goals (try (exfalso;go_light;simp_all;done))
     go_ret
     exact ⟨rfl,mY.out⟩
   ·have q4:(oe != 0)=true:=by simpa using hoe
    obtain rfl:R=oe:=by rw[HD.out,bZ];simp[HM.out,oU.out,hoe]
    go_wp2
    all_goals (try (exfalso;go_light;simp_all;done))
    go_ret
    exact ⟨rfl,mY.out⟩
  ·have q3:(CE != 0)=true:=by simpa using hce
   obtain rfl:R=CE:=by rw[HD.out,bZ];simp[HM.out,oU.out,hce]
   go_wp2
   all_goals (try (exfalso;go_light;simp_all;done))
   go_ret
   exact ⟨rfl,mX.out⟩)
theorem AX (hz:In w A5 n5 c5 zs)(hb0:n<=4096)(hb1:n'<=4096)(hb2:n1<=4096)(hb3:n2<=4096)(hp:jQ x)(h4:¬x.kind=4)(h5:¬x.kind=5)(p0:(x.policy==0)=false)(h2:(x.kind==2)=false)(h6:(x.kind==6)=true):
  Calls Tryz.prog 80 #[.agg (ax x A n c A' n' c' aY n'' c'').toArray,.slice A1 n1 c1,.slice A2 n2 c2,.slice A5 n5 c5] w λe w'=>e=.returned (.int .i64 (bu x cols ocols zs))/\Below w.heap.size w w':=by
 have _:=hq
 have HD0:=hide (show bu x cols ocols zs=if aD cols≠0 then aD cols else jA x cols ocols from by
  rw[iN x cols ocols zs hp.1 hp.2]
  have:iE x.kind=false:=by rw[iE];simp[h4,h5]
  rw[this];simp)
 rw[pI x cols ocols]at HD0
 have HI1:=hide λW hx hy=>jo W A1 n1 c1 cols hx A n c x.cols hy (by omega) (by omega)
 have HI2:=hide λW hx hy=>jo W A2 n2 c2 ocols hx A' n' c' x.ocols hy (by omega) (by omega)
 have HR1:=hide (λh=>lH (cols:=cols) (names:=x.cols) h)
 have HR2:=hide (λh=>lH (cols:=ocols) (names:=x.ocols) h)
 have ym:=hide (Nat.le_trans (jM cols x.cols) (by rw[hn.len];exact hb0))
 have yo:=hide (Nat.le_trans (jM ocols x.ocols) (by rw[hn'.len];exact hb1))
 have Iz:=hide hc.len
 have sJ:=hide ho.len
 obtain ⟨R,hR⟩: ∃R,bu x cols ocols zs=R:=⟨_,rfl⟩
 obtain ⟨I1,hI1⟩: ∃I,bD cols x.cols=I:=⟨_,rfl⟩
 obtain ⟨I2,hI2⟩: ∃I,bD ocols x.ocols=I:=⟨_,rfl⟩
 obtain ⟨U,hU⟩: ∃U,iL x.kind=U:=⟨_,rfl⟩
 rw[hR,hI1,hI2,hU]at HD0
 rw[hI1]at HI1 HR1 ym
 rw[hI2]at HI2 HR2 yo
 rw[hR]
 have HU:=hide hU
 clear hR hI1 hI2 hU
 obtain ⟨ie,is⟩:=I1
 obtain ⟨oe,os⟩:=I2
 simp only at HD0 HI1 HI2 HR1 HR2 ym yo
 obtain ⟨K0,Gd⟩: ∃K,(cols.getD (is.getD 0 0).toNat default).kind=K:=⟨_,rfl⟩
 rw[Gd]at HD0
 have NG:=hide Gd
 clear Gd
 obtain ⟨CE,Cy⟩: ∃CE,aD ocols=CE:=⟨_,rfl⟩
 rw[Cy]at HD0
 have J5:=hide Cy
 obtain ⟨C1,yS⟩: ∃CE,aD cols=CE:=⟨_,rfl⟩
 rw[yS]at HD0
 have Ki:=hide yS
 obtain ⟨sg,hsg⟩: ∃s,(x.kind==2 || x.kind==6)=s:=⟨_,rfl⟩
 rw[hsg]at HD0
 clear Cy yS
 obtain rfl:sg=true:=by rw[<-hsg,h2,h6];rfl
 obtain ⟨d1,d2,d3,d4⟩:=hp.dec
 have e4:(x.kind==4)=false:=by simpa using h4
 have e5:(x.kind==5)=false:=by simpa using h5
 clear hsg h4 h5 hp
 simp only[ax]
 go_enter Tryz.func80,Tryz.ntmps80
 have HN:=hide hn
 clear hn
 have eT:=hide hn'
 clear hn'
 have HC:=hide hc
 clear hc
 have HO:=hide ho
 clear ho
 go_wp2_with fail
 obtain ⟨W1,hW1⟩: ∃W,W=w.alloc (.cells #[.string x.name,.string x.table,.int .i64 x.kind,.slice A n c,.string x.other,.slice A' n' c',.int .i64 x.low,.int .i64 x.high,.slice aY n'' c'',.int .i64 x.ln,.int .i64 x.ld,.int .i64 x.mn,.int .i64 x.md,.int .i64 x.policy] 27):=⟨_,rfl⟩
 obtain ⟨hbW1,fO,g0,g1,g2,g3,g4,g5,g6,g7,g8,g9,g10,g11,g12,g13⟩:=dE hW1 rfl
 rw[<-hW1]
 clear hW1
 have HN:=hide (HN.out.below hbW1)
 have eT:=hide (eT.out.below hbW1)
 have HC:=hide (HC.out.below hbW1)
 have HO:=hide (HO.out.below hbW1)
 have gp:=hide hbW1
 clear hbW1
 have LR:=lt_of_cell g0
 go_wp2_with fail
 refine (jJ _ A1 n1 c1 cols HC.out).mono ?_
 rintro e w6 ⟨rfl,rfl⟩
 rw[Ki.out]
 by_cases hc1:C1=0
 rotate_left
 ·have q0:(C1 != 0)=true:=by simpa using hc1
  obtain rfl:R=C1:=by rw[HD0.out,if_pos hc1]
  go_wp2
  all_goals (try (exfalso;go_light;simp_all;done))
  go_ret
  exact ⟨rfl,gp.out⟩
 subst hc1
 have HD:=hide (show R=bZ true U ie is K0 CE oe os ((List.zip is os).any (mV cols ocols)) from by rw[HD0.out];simp)
 go_wp2_with fail
 refine (HI1.out _ (by exact HC.out) (by exact HN.out)).mono ?_
 rintro e w1 ⟨⟨v,rfl,hov⟩,hb1⟩
 obtain ⟨A4,c4,rfl⟩:=hov.form
 obtain ⟨m,hm⟩: ∃m,is.length=m:=⟨_,rfl⟩
 have ze:=gD hov rfl
 rw[hm]at ze⊢
 have HM:=hide hm
 clear hov hm
 have HN:=hide (HN.out.below hb1)
 have eT:=hide (eT.out.below hb1)
 have HC:=hide (HC.out.below hb1)
 have HO:=hide (HO.out.below hb1)
 obtain ⟨g0,g1,g2,g3,g4,g5,g6,g7,g8,g9,g10,g11,g12,g13,LR⟩:=eB hb1 LR g0 g1 g2 g3 g4 g5 g6 g7 g8 g9 g10 g11 g12 g13
 have jW:=hide (aa gp.out hb1)
 clear hb1
 have HK:=hide ze
 clear ze
 by_cases h0:ie=0
 rotate_left
 ·have q0:(ie != 0)=true:=by simpa using h0
  obtain rfl:R=ie:=by rw[HD.out,bZ,if_pos h0]
  go_wp2
  all_goals (try (exfalso;go_light;simp_all;done))
  go_ret
  exact ⟨rfl,jW.out⟩
 subst h0
 by_cases hmz:m=0
 ·subst hmz
  obtain rfl:R=8:=by rw[HD.out,bZ];simp[HM.out]
  go_wp2
  all_goals (try (exfalso;go_light;simp_all;done))
  go_ret
  exact ⟨rfl,jW.out⟩
 have qz:((m:Int)==0)=false:=by simpa using hmz
 have oU:=hide hmz
 by_cases hm1:1<m
 ·have q1:decide (1<(m:Int))=true:=by simp;omega
  obtain rfl:R=8:=by rw[HD.out,bZ];simp[HM.out,hm1]
  go_wp2
  all_goals (try (exfalso;go_light;simp_all;done))
  go_ret
  exact ⟨rfl,jW.out⟩
 have q1:decide (1<(m:Int))=false:=by simp;omega
 have uh:=hide hm1
 obtain ⟨b0,o0,j0,rfl,qy,HX0,e0,_⟩:=HK.out.int (k:=0) (by omega)
 rw[Nat.add_zero]at e0
 have hr0:=HR1.out (by first|rfl|trivial) j0 (aM HX0.out)
 rw[Iz.out]at hr0
 obtain ⟨i0,rfl⟩: ∃i:Nat,j0=(i:Int):=⟨j0.toNat,by omega⟩
 obtain ⟨bc,oc,y0,rfl,Ri,HZ0,_,p0,_,_⟩:=HC.out.col (k:=i0) (by omega)
 have XQ:(0:Int)<=(i0:Int):=by omega
 have XR:(i0:Int)<(n1:Int):=hr0.2
 have U7:(0:Int)<(m:Int):=by omega
 obtain ⟨k5,hk5⟩: ∃q,y0.kind=q:=⟨_,rfl⟩
 have e5:K0=k5:=by
  rw[<-NG.out,dW HX0.out,<-hk5]
  simp only[Int.toNat_natCast]
  rw[dW HZ0.out]
 rw[hk5]at p0
 subst e5
 clear hk5 hr0 HX0 HZ0
 by_cases hk2:K0=2
 rotate_left
 ·have q2:(K0 != 2)=true:=by simpa using hk2
  obtain rfl:R=7:=by rw[HD.out,bZ];simp[HM.out,oU.out,uh.out,hk2]
  go_wp2
  all_goals (try (exfalso;go_light;simp_all;done))
  go_ret
  exact ⟨rfl,jW.out⟩
 subst hk2
 have q2:((2:Int) != 2)=false:=by decide
 go_wp2_with fail
 refine (sF _ x A n c A' n' c' aY n'' c'').mono ?_
 rintro e U6 ⟨rfl,lV⟩
 have HN:=hide (HN.out.below lV)
 have eT:=hide (eT.out.below lV)
 have HC:=hide (HC.out.below lV)
 have HO:=hide (HO.out.below lV)
 have HK:=hide (HK.out.below lV)
 obtain ⟨g0,g1,g2,g3,g4,g5,g6,g7,g8,g9,g10,g11,g12,g13,LR⟩:=eB lV LR g0 g1 g2 g3 g4 g5 g6 g7 g8 g9 g10 g11 g12 g13
 have kw:=hide (aa jW.out lV)
 clear lV
 rw[HU.out]
 cases U
 ·obtain rfl:R=0:=by rw[HD.out,bZ];simp[HM.out,oU.out,uh.out]
  go_wp2
  all_goals (try (exfalso;go_light;simp_all;done))
  go_ret
  exact ⟨rfl,kw.out⟩
 go_wp2_with fail
 refine (jJ _ A2 n2 c2 ocols HO.out).mono ?_
 rintro e w6 ⟨rfl,rfl⟩
 rw[J5.out]
 by_cases hce:CE=0
 ·subst hce
  go_wp2_with fail
  refine (HI2.out _ (by exact HO.out) (by exact eT.out)).mono ?_
  rintro e w7 ⟨⟨v2,rfl,mO⟩,dC⟩
  obtain ⟨A5,c5,rfl⟩:=mO.form
  obtain ⟨m2,hm2⟩: ∃m,os.length=m:=⟨_,rfl⟩
  have yZ:=gD mO rfl
  rw[hm2]at yZ⊢
  have vD:=hide hm2
  clear mO hm2
  have HN:=hide (HN.out.below dC)
  have HC:=hide (HC.out.below dC)
  have HO:=hide (HO.out.below dC)
  have HK:=hide (HK.out.below dC)
  obtain ⟨g0,g1,g2,g3,g4,g5,g6,g7,g8,g9,g10,g11,g12,g13,LR⟩:=eB dC LR g0 g1 g2 g3 g4 g5 g6 g7 g8 g9 g10 g11 g12 g13
  have ma:=hide (aa kw.out dC)
  clear dC
  have wG:=hide yZ
  clear yZ
  by_cases hoe:oe=0
  ·subst hoe
   by_cases hmm:m=m2
   ·subst hmm
    have HD2:Hid (R=if (List.zip is os).any (mV cols ocols)=true then 7 else 0):=hide (by rw[HD.out,bZ];simp[HM.out,oU.out,uh.out,vD.out])
    obtain ⟨W5,rfl⟩: ∃W,W=w7:=⟨_,rfl⟩
    have h63:=HK.out.le
    go_wp2
    go_loopw [20] (λi wr=> ∃k:Nat,k<=m/\i=.int .i64 k/\(List.zip is os).any (mV cols ocols)=((List.zip is os).drop k).any (mV cols ocols)/\Below W5.heap.size W5 wr) (λi _=>m-(RowKit.intOf i).toNat)
    case atStart=>exact ⟨0,Nat.zero_le _,rfl,rfl,Below.refl _ _⟩
    case round=>
     obtain ⟨k,hk,rfl,heq,hb⟩:=hrel
     have HE:=hide heq
     clear heq
     have HN:=hide (HN.out.below hb)
     have HC:=hide (HC.out.below hb)
     have HO:=hide (HO.out.below hb)
     have HK:=hide (HK.out.below hb)
     have wG:=hide (wG.out.below hb)
     obtain ⟨g0,g1,g2,g3,g4,g5,g6,g7,g8,g9,g10,g11,g12,g13,LR⟩:=eB hb LR g0 g1 g2 g3 g4 g5 g6 g7 g8 g9 g10 g11 g12 g13
     have il:=hide hb
     clear hb
     clear g0 g1 g2 g3 g4 g5 g6 g7 g8 g9 g10 g11 g12 g13
     by_cases hlt:k<m
     ·obtain ⟨b,off,j1,uO,hBb,HX,e0,_⟩:=HK.out.int hlt
      first|(subst uO)|(injection uO with uO;injection uO with hA5 hA6;subst hA5;subst hA6)
      obtain ⟨b2,JE,j2,rfl,Jj,HY,f0,_⟩:=wG.out.int hlt
      have hr1:=HR1.out (by first|rfl|trivial) j1 (aM HX.out)
      have hr2:=HR2.out (by first|rfl|trivial) j2 (aM HY.out)
      rw[Iz.out]at hr1
      rw[sJ.out]at hr2
      obtain ⟨i1,rfl⟩: ∃i:Nat,j1=(i:Int):=⟨j1.toNat,by omega⟩
      obtain ⟨i2,rfl⟩: ∃i:Nat,j2=(i:Int):=⟨j2.toNat,by omega⟩
      obtain ⟨b3,Db,y1,hA1,LU,HZ1,_,p1,_,_⟩:=HC.out.col (k:=i1) (by omega)
      first|(subst hA1)|(injection hA1 with hA1;injection hA1 with hA7 hA8;subst hA7;subst hA8)
      obtain ⟨b4,ML,y2,rfl,LV,HZ2,_,q1,_,_⟩:=HO.out.col (k:=i2) (by omega)
      have DC:Hid ((List.zip is os).drop k=((i1:Int),(i2:Int)) :: (List.zip is os).drop (k+1)):=hide (by
       rw[List.zip,List.drop_zipWith,HX.out,HY.out,List.zipWith_cons_cons,List.drop_zipWith])
      have ui:Hid (mV cols ocols ((i1:Int),(i2:Int))=(y1.kind != y2.kind)):=hide (by
       rw[mV]
       simp only[Int.toNat_natCast]
       rw[dW HZ1.out,dW HZ2.out])
      have k0:(0:Int)<=(k:Int):=by omega
      have k1:(k:Int)<(m:Int):=by omega
      have UK:(0:Int)<=(i1:Int):=by omega
      have i11:(i1:Int)<(n1:Int):=hr1.2
      have i20:(0:Int)<=(i2:Int):=by omega
      have i21:(i2:Int)<(n2:Int):=hr2.2
      have jk:=hide il.out
      have nP:=hide (aa ma.out il.out)
      clear hr1 hr2 HZ1 HZ2 HX HY
      obtain ⟨k3,hk3⟩: ∃q,y1.kind=q:=⟨_,rfl⟩
      obtain ⟨k4,hk4⟩: ∃q,y2.kind=q:=⟨_,rfl⟩
      rw[hk3]at p1 ui
      rw[hk4]at q1 ui
      clear hk3 hk4
      go_wp2
      go_quiet (fail)
      by_cases hq:k3=k4
      ·subst hq
       have HN:Hid ((List.zip is os).any (mV cols ocols)=((List.zip is os).drop (k+1)).any (mV cols ocols)):=hide (by rw[HE.out,DC.out,List.any_cons,ui.out];simp)
       go_wp2
       all_goals (try (exfalso;go_light;simp_all;done))
       go_roundw
       case rel=>exact ⟨k+1,by omega,by go_num,HN.out,below_drewN jk.out _⟩
       case measure=>simp[RowKit.intOf];omega
      ·have hq2:(k3 != k4)=true:=by simpa using hq
       obtain rfl:R=7:=by rw[HD2.out,HE.out,DC.out,List.any_cons,ui.out,hq2];simp
       go_wp2
       all_goals (try (exfalso;go_light;simp_all;done))
       go_ret
       exact ⟨rfl,below_drewN nP.out _⟩
     ·obtain rfl:R=0:=by rw[HD2.out,HE.out,List.drop_eq_nil_of_le (by rw[List.length_zip,HM.out,vD.out];omega)];rfl
      have nP:=hide (aa ma.out il.out)
      go_wp2
      all_goals (try (exfalso;go_light;simp_all;done))
      go_ret
      exact ⟨rfl,nP.out⟩
   ·have q5:((m:Int) != (m2:Int))=true:=by simp;omega
    obtain rfl:R=8:=by rw[HD.out,bZ];simp[HM.out,oU.out,uh.out,vD.out,hmm]
    go_wp2
    all_goals (try (exfalso;go_light;simp_all;done))
    go_ret
    exact ⟨rfl,ma.out⟩
  ·have q4:(oe != 0)=true:=by simpa using hoe
   obtain rfl:R=oe:=by rw[HD.out,bZ];simp[HM.out,oU.out,uh.out,hoe]
   go_wp2
   all_goals (try (exfalso;go_light;simp_all;done))
   go_ret
   exact ⟨rfl,ma.out⟩
 ·have q3:(CE != 0)=true:=by simpa using hce
  obtain rfl:R=CE:=by rw[HD.out,bZ];simp[HM.out,oU.out,uh.out,hce]
  go_wp2
  all_goals (try (exfalso;go_light;simp_all;done))
  go_ret
  exact ⟨rfl,kw.out⟩
theorem xQ (hz:In w A5 n5 c5 zs)(hb0:n<=4096)(hb1:n'<=4096)(hb2:n1<=4096)(hb3:n2<=4096)(hp:jQ x)(h4:¬x.kind=4)(h5:¬x.kind=5):
  Calls Tryz.prog 80 #[.agg (ax x A n c A' n' c' aY n'' c'').toArray,.slice A1 n1 c1,.slice A2 n2 c2,.slice A5 n5 c5] w λe w'=>e=.returned (.int .i64 (bu x cols ocols zs))/\Below w.heap.size w w':=by
 cases p0:(x.policy==0)
 ·cases q1:(x.kind==2)
  ·cases q2:(x.kind==6)
   ·exact vz w x A n c hn A' n' c' hn' aY n'' c'' hq A1 n1 c1 cols hc A2 n2 c2 ocols ho A5 n5 c5 zs hz hb0 hb1 hb2 hb3 hp h4 h5 (.inr ⟨p0,q1,q2⟩)
   ·exact AX w x A n c hn A' n' c' hn' aY n'' c'' hq A1 n1 c1 cols hc A2 n2 c2 ocols ho A5 n5 c5 zs hz hb0 hb1 hb2 hb3 hp h4 h5 p0 q1 q2
  ·exact vw w x A n c hn A' n' c' hn' aY n'' c'' hq A1 n1 c1 cols hc A2 n2 c2 ocols ho A5 n5 c5 zs hz hb0 hb1 hb2 hb3 hp h4 h5 (.inr ⟨p0,q1⟩)
 ·have q2:(x.kind==6)=false:=by
   have h0:x.policy=0:=by simpa using p0
   have:=hp.2
   simp only[beq_eq_false_iff_ne]
   omega
  cases q1:(x.kind==2)
  ·exact vz w x A n c hn A' n' c' hn' aY n'' c'' hq A1 n1 c1 cols hc A2 n2 c2 ocols ho A5 n5 c5 zs hz hb0 hb1 hb2 hb3 hp h4 h5 (.inl ⟨p0,q2,q1⟩)
  ·exact vw w x A n c hn A' n' c' hn' aY n'' c'' hq A1 n1 c1 cols hc A2 n2 c2 ocols ho A5 n5 c5 zs hz hb0 hb1 hb2 hb3 hp h4 h5 (.inl ⟨p0,q2,q1⟩)
end
end Go.Proofs.YtggejcekmehocaaGreatDoor
