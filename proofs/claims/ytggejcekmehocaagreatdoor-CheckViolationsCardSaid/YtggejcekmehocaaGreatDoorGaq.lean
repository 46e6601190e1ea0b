/-
  scalar.typed: it returns opKd, operator by operator. (Printed by gen_typed.py.) warehouseref9.binary: it returns binKd. (Printed by gen_ref9.py.)
-/
import Derived.Test.YtggejcekmehocaaGreatDoorGam
import Derived.Test.YtggejcekmehocaaGreatDoorGak
import Derived.Test.YtggejcekmehocaaGreatDoorTypC
namespace Go.Proofs.YtggejcekmehocaaGreatDoor
set_option maxHeartbeats 4000000
set_option maxRecDepth 100000
open Go.RowKit
set_option linter.unusedSimpArgs false
set_option linter.unusedVariables false
theorem bE {w:World}{g:Nat}{u0 u1:Value}(h0:w.cell? ⟨g,0,none⟩=some u0)(h1:w.cell? ⟨g,1,none⟩=some u1):
  (∀a,(w.setCell ⟨g,0,none⟩ a).cell? ⟨g,0,none⟩=some a)/\(∀a b,((w.setCell ⟨g,0,none⟩ a).setCell ⟨g,1,none⟩ b).cell? ⟨g,1,none⟩=some b):=
 ⟨λa=>bU h0,λa b=>bU (ae h1 (.inr (by omega)))⟩
theorem bq {w:World}{b off n c k:Nat}{xs:List Kd}(h:In w (some ⟨b,off,none⟩) n c xs)(hk:k<n){x:Kd}(hx:xs[k]?=some x):
  b<w.heap.size/\w.cell? ⟨b,off+k*2,none⟩=some (.int .i64 x.kind)/\w.cell? ⟨b,off+k*2+1,none⟩=some (.bool x.null):=by
 obtain ⟨b',off',y,e,hb,HY,f0,f1,f2⟩:=h.kd hk
 injection e with e
 injection e with e1 e2
 subst e1 e2
 have:=(dS HY.out).1
 rw[hx]at this
 injection this with this
 subst this
 exact ⟨hb,f0,f1⟩
theorem Pp (kd nu ar:Int)(st nm:ByteArray)(w:World)(A:Option Addr)(c:Nat)(hx:In w A 0 c ([]:List Kd)):
  Calls Tryz.prog 173 #[.agg (bS 0 kd nu st nm ar),.slice A 0 c] w λe w'=>e=.returned (.tuple #[.agg (aQ ⟨0,⟨kd,nu,st⟩,nm,ar⟩ ([]:List Kd)).1.cells.toArray,.bool (aQ ⟨0,⟨kd,nu,st⟩,nm,ar⟩ ([]:List Kd)).2])/\Below w.heap.size w w':=by
 simp only[bS]
 go_enter Tryz.func173,Tryz.ntmps173
 go_wp2_with (first|(go_at_call 208;refine (dJ _ _ _ _ _ (hx.below below_alloc2)).mono ?_;rintro e w0 ⟨rfl,hb0⟩;have hacc:=aa below_alloc2 hb0;have hx2:=hb0;obtain ⟨hc0,hf0⟩:=ai hb0;have HS:=hide (bE (ah (b:=w.heap.size+1) (o:=0) (v:=.int .i64 0) hx2 (by simp) (by simp[go_sem])) (ah (b:=w.heap.size+1) (o:=1) (v:=.bool false) hx2 (by simp) (by simp[go_sem])));clear hb0)|(go_at_call 210;refine (lF _ _ _ _).mono ?_;rintro e w1 ⟨rfl,hb1⟩;have hacc:=aa hacc hb1;have hx2:=aa hx2 hb1;obtain ⟨hc1,hf1⟩:=ai hx2;have HS:=hide (bE (ah (b:=w.heap.size+1) (o:=0) (v:=.int .i64 0) hx2 (by simp) (by simp[go_sem])) (ah (b:=w.heap.size+1) (o:=1) (v:=.bool false) hx2 (by simp) (by simp[go_sem])));clear hb1))
 all_goals
  refine bodyPost_ret (v:=.tuple #[.agg (aQ ⟨0,⟨kd,nu,st⟩,nm,ar⟩ ([]:List Kd)).1.cells.toArray,.bool (aQ ⟨0,⟨kd,nu,st⟩,nm,ar⟩ ([]:List Kd)).2]) ?_ rfl ?_
  ·obtain ⟨S0,S1⟩:=HS.out
   simp[results,Tryz.results173,go_sem,S0,S1]
   go_light
   (try simp_all[aQ,ek,aO,Kd.cells])
  ·refine ⟨rfl,?_⟩
   first|exact hacc|exact (hacc.setCell (by simp) _).setCell (by simp) _
theorem Pq (kd nu ar:Int)(st nm:ByteArray)(w:World)(b off:Nat)(c:Nat)(x:Kd)(hx:In w (some ⟨b,off,none⟩) 1 c ([x]:List Kd)):
  Calls Tryz.prog 173 #[.agg (bS 2 kd nu st nm ar),.slice (some ⟨b,off,none⟩) 1 c] w λe w'=>e=.returned (.tuple #[.agg (aQ ⟨2,⟨kd,nu,st⟩,nm,ar⟩ ([x]:List Kd)).1.cells.toArray,.bool (aQ ⟨2,⟨kd,nu,st⟩,nm,ar⟩ ([x]:List Kd)).2])/\Below w.heap.size w w':=by
 obtain ⟨hB,x0,x1⟩:=bq hx (show 0<1 by omega) (x:=x) rfl
 obtain ⟨xk,xn⟩:=x
 simp only[Nat.zero_mul,Nat.one_mul,Nat.add_zero,Nat.reduceMul]at x0 x1
 simp only[bS]
 go_enter Tryz.func173,Tryz.ntmps173
 go_wp2_with (first|(go_at_call 208;refine (dJ _ _ _ _ _ (hx.below below_alloc2)).mono ?_;rintro e w0 ⟨rfl,hb0⟩;have hacc:=aa below_alloc2 hb0;have hx2:=hb0;obtain ⟨hc0,hf0⟩:=ai hb0;have HS:=hide (bE (ah (b:=w.heap.size+1) (o:=0) (v:=.int .i64 0) hx2 (by simp) (by simp[go_sem])) (ah (b:=w.heap.size+1) (o:=1) (v:=.bool false) hx2 (by simp) (by simp[go_sem])));have xa:=ah hacc hB x0;have xb:=ah hacc hB x1;clear hb0)|(go_at_call 210;refine (lF _ _ _ _).mono ?_;rintro e w1 ⟨rfl,hb1⟩;have hacc:=aa hacc hb1;have hx2:=aa hx2 hb1;obtain ⟨hc1,hf1⟩:=ai hx2;have HS:=hide (bE (ah (b:=w.heap.size+1) (o:=0) (v:=.int .i64 0) hx2 (by simp) (by simp[go_sem])) (ah (b:=w.heap.size+1) (o:=1) (v:=.bool false) hx2 (by simp) (by simp[go_sem])));have xa:=ah hacc hB x0;have xb:=ah hacc hB x1;clear hb1))
 all_goals
  refine bodyPost_ret (v:=.tuple #[.agg (aQ ⟨2,⟨kd,nu,st⟩,nm,ar⟩ ([⟨xk,xn⟩]:List Kd)).1.cells.toArray,.bool (aQ ⟨2,⟨kd,nu,st⟩,nm,ar⟩ ([⟨xk,xn⟩]:List Kd)).2]) ?_ rfl ?_
  ·obtain ⟨S0,S1⟩:=HS.out
   simp[results,Tryz.results173,go_sem,S0,S1]
   go_light
   (try simp_all[aQ,ek,aO,Kd.cells])
  ·refine ⟨rfl,?_⟩
   first|exact hacc|exact (hacc.setCell (by simp) _).setCell (by simp) _
theorem yh (op:Int)(hop:op=3\/op=16\/op=19\/op=20)(kd nu ar:Int)(st nm:ByteArray)(w:World)(b off:Nat)(c:Nat)(x:Kd)(hx:In w (some ⟨b,off,none⟩) 1 c ([x]:List Kd)):
  Calls Tryz.prog 173 #[.agg (bS op kd nu st nm ar),.slice (some ⟨b,off,none⟩) 1 c] w λe w'=>e=.returned (.tuple #[.agg (aQ ⟨op,⟨kd,nu,st⟩,nm,ar⟩ ([x]:List Kd)).1.cells.toArray,.bool (aQ ⟨op,⟨kd,nu,st⟩,nm,ar⟩ ([x]:List Kd)).2])/\Below w.heap.size w w':=by
 obtain ⟨hB,x0,x1⟩:=bq hx (show 0<1 by omega) (x:=x) rfl
 obtain ⟨xk,xn⟩:=x
 simp only[Nat.zero_mul,Nat.one_mul,Nat.add_zero,Nat.reduceMul]at x0 x1
 simp only[bS]
 obtain ⟨R,hR⟩: ∃R:Value,R=.tuple #[.agg (aQ ⟨op,⟨kd,nu,st⟩,nm,ar⟩ ([⟨xk,xn⟩]:List Kd)).1.cells.toArray,.bool (aQ ⟨op,⟨kd,nu,st⟩,nm,ar⟩ ([⟨xk,xn⟩]:List Kd)).2]:=⟨_,rfl⟩
 rw[<-hR]
 have HR:=hide hR
 clear hR
 rcases hop with rfl|rfl|rfl|rfl
 all_goals (
  go_enter Tryz.func173,Tryz.ntmps173
  go_wp2_with (first|(go_at_call 208;refine (dJ _ _ _ _ _ (hx.below below_alloc2)).mono ?_;rintro e w0 ⟨rfl,hb0⟩;have hacc:=aa below_alloc2 hb0;have hx2:=hb0;obtain ⟨hc0,hf0⟩:=ai hb0;have HS:=hide (bE (ah (b:=w.heap.size+1) (o:=0) (v:=.int .i64 0) hx2 (by simp) (by simp[go_sem])) (ah (b:=w.heap.size+1) (o:=1) (v:=.bool false) hx2 (by simp) (by simp[go_sem])));have xa:=ah hacc hB x0;have xb:=ah hacc hB x1;clear hb0)|(go_at_call 210;refine (lF _ _ _ _).mono ?_;rintro e w1 ⟨rfl,hb1⟩;have hacc:=aa hacc hb1;have hx2:=aa hx2 hb1;obtain ⟨hc1,hf1⟩:=ai hx2;have HS:=hide (bE (ah (b:=w.heap.size+1) (o:=0) (v:=.int .i64 0) hx2 (by simp) (by simp[go_sem])) (ah (b:=w.heap.size+1) (o:=1) (v:=.bool false) hx2 (by simp) (by simp[go_sem])));have xa:=ah hacc hB x0;have xb:=ah hacc hB x1;clear hb1))
  all_goals
   refine bodyPost_ret (v:=R) ?_ rfl ?_
   ·obtain ⟨S0,S1⟩:=HS.out
    rw[HR.out]
    simp[results,Tryz.results173,go_sem,S0,S1]
    go_light
    (try simp_all[aQ,ek,aO,Kd.cells])
   ·refine ⟨rfl,?_⟩
    first|exact hacc|exact (hacc.setCell (by simp) _).setCell (by simp) _)
theorem yf (op:Int)(hop:op=4\/op=5\/op=6\/op=7)(kd nu ar:Int)(st nm:ByteArray)(w:World)(b off:Nat)(c:Nat)(x:Kd)(y:Kd)(hx:In w (some ⟨b,off,none⟩) 2 c ([x,y]:List Kd)):
  Calls Tryz.prog 173 #[.agg (bS op kd nu st nm ar),.slice (some ⟨b,off,none⟩) 2 c] w λe w'=>e=.returned (.tuple #[.agg (aQ ⟨op,⟨kd,nu,st⟩,nm,ar⟩ ([x,y]:List Kd)).1.cells.toArray,.bool (aQ ⟨op,⟨kd,nu,st⟩,nm,ar⟩ ([x,y]:List Kd)).2])/\Below w.heap.size w w':=by
 obtain ⟨hB,x0,x1⟩:=bq hx (show 0<2 by omega) (x:=x) rfl
 obtain ⟨xk,xn⟩:=x
 obtain ⟨hB,y0,y1⟩:=bq hx (show 1<2 by omega) (x:=y) rfl
 obtain ⟨yk,yn⟩:=y
 simp only[Nat.zero_mul,Nat.one_mul,Nat.add_zero,Nat.reduceMul]at x0 x1 y0 y1
 simp only[bS]
 obtain ⟨R,hR⟩: ∃R:Value,R=.tuple #[.agg (aQ ⟨op,⟨kd,nu,st⟩,nm,ar⟩ ([⟨xk,xn⟩,⟨yk,yn⟩]:List Kd)).1.cells.toArray,.bool (aQ ⟨op,⟨kd,nu,st⟩,nm,ar⟩ ([⟨xk,xn⟩,⟨yk,yn⟩]:List Kd)).2]:=⟨_,rfl⟩
 rw[<-hR]
 have HR:=hide hR
 clear hR
 rcases hop with rfl|rfl|rfl|rfl
 all_goals (
  go_enter Tryz.func173,Tryz.ntmps173
  go_wp2_with (first|(go_at_call 208;refine (dJ _ _ _ _ _ (hx.below below_alloc2)).mono ?_;rintro e w0 ⟨rfl,hb0⟩;have hacc:=aa below_alloc2 hb0;have hx2:=hb0;obtain ⟨hc0,hf0⟩:=ai hb0;have HS:=hide (bE (ah (b:=w.heap.size+1) (o:=0) (v:=.int .i64 0) hx2 (by simp) (by simp[go_sem])) (ah (b:=w.heap.size+1) (o:=1) (v:=.bool false) hx2 (by simp) (by simp[go_sem])));have xa:=ah hacc hB x0;have xb:=ah hacc hB x1;have ya:=ah hacc hB y0;have yb:=ah hacc hB y1;clear hb0)|(go_at_call 210;refine (lF _ _ _ _).mono ?_;rintro e w1 ⟨rfl,hb1⟩;have hacc:=aa hacc hb1;have hx2:=aa hx2 hb1;obtain ⟨hc1,hf1⟩:=ai hx2;have HS:=hide (bE (ah (b:=w.heap.size+1) (o:=0) (v:=.int .i64 0) hx2 (by simp) (by simp[go_sem])) (ah (b:=w.heap.size+1) (o:=1) (v:=.bool false) hx2 (by simp) (by simp[go_sem])));have xa:=ah hacc hB x0;have xb:=ah hacc hB x1;have ya:=ah hacc hB y0;have yb:=ah hacc hB y1;clear hb1))
  all_goals
   refine bodyPost_ret (v:=R) ?_ rfl ?_
   ·obtain ⟨S0,S1⟩:=HS.out
    rw[HR.out]
    simp[results,Tryz.results173,go_sem,S0,S1]
    go_light
    (try simp_all[aQ,ek,aO,Kd.cells])
   ·refine ⟨rfl,?_⟩
    first|exact hacc|exact (hacc.setCell (by simp) _).setCell (by simp) _)
theorem yg (op:Int)(hop:op=8\/op=9\/op=14\/op=15)(kd nu ar:Int)(st nm:ByteArray)(w:World)(b off:Nat)(c:Nat)(x:Kd)(y:Kd)(hx:In w (some ⟨b,off,none⟩) 2 c ([x,y]:List Kd)):
  Calls Tryz.prog 173 #[.agg (bS op kd nu st nm ar),.slice (some ⟨b,off,none⟩) 2 c] w λe w'=>e=.returned (.tuple #[.agg (aQ ⟨op,⟨kd,nu,st⟩,nm,ar⟩ ([x,y]:List Kd)).1.cells.toArray,.bool (aQ ⟨op,⟨kd,nu,st⟩,nm,ar⟩ ([x,y]:List Kd)).2])/\Below w.heap.size w w':=by
 obtain ⟨hB,x0,x1⟩:=bq hx (show 0<2 by omega) (x:=x) rfl
 obtain ⟨xk,xn⟩:=x
 obtain ⟨hB,y0,y1⟩:=bq hx (show 1<2 by omega) (x:=y) rfl
 obtain ⟨yk,yn⟩:=y
 simp only[Nat.zero_mul,Nat.one_mul,Nat.add_zero,Nat.reduceMul]at x0 x1 y0 y1
 simp only[bS]
 obtain ⟨R,hR⟩: ∃R:Value,R=.tuple #[.agg (aQ ⟨op,⟨kd,nu,st⟩,nm,ar⟩ ([⟨xk,xn⟩,⟨yk,yn⟩]:List Kd)).1.cells.toArray,.bool (aQ ⟨op,⟨kd,nu,st⟩,nm,ar⟩ ([⟨xk,xn⟩,⟨yk,yn⟩]:List Kd)).2]:=⟨_,rfl⟩
 rw[<-hR]
 have HR:=hide hR
 clear hR
 rcases hop with rfl|rfl|rfl|rfl
 all_goals (
  go_enter Tryz.func173,Tryz.ntmps173
  go_wp2_with (first|(go_at_call 208;refine (dJ _ _ _ _ _ (hx.below below_alloc2)).mono ?_;rintro e w0 ⟨rfl,hb0⟩;have hacc:=aa below_alloc2 hb0;have hx2:=hb0;obtain ⟨hc0,hf0⟩:=ai hb0;have HS:=hide (bE (ah (b:=w.heap.size+1) (o:=0) (v:=.int .i64 0) hx2 (by simp) (by simp[go_sem])) (ah (b:=w.heap.size+1) (o:=1) (v:=.bool false) hx2 (by simp) (by simp[go_sem])));have xa:=ah hacc hB x0;have xb:=ah hacc hB x1;have ya:=ah hacc hB y0;have yb:=ah hacc hB y1;clear hb0)|(go_at_call 210;refine (lF _ _ _ _).mono ?_;rintro e w1 ⟨rfl,hb1⟩;have hacc:=aa hacc hb1;have hx2:=aa hx2 hb1;obtain ⟨hc1,hf1⟩:=ai hx2;have HS:=hide (bE (ah (b:=w.heap.size+1) (o:=0) (v:=.int .i64 0) hx2 (by simp) (by simp[go_sem])) (ah (b:=w.heap.size+1) (o:=1) (v:=.bool false) hx2 (by simp) (by simp[go_sem])));have xa:=ah hacc hB x0;have xb:=ah hacc hB x1;have ya:=ah hacc hB y0;have yb:=ah hacc hB y1;clear hb1))
  all_goals
   refine bodyPost_ret (v:=R) ?_ rfl ?_
   ·obtain ⟨S0,S1⟩:=HS.out
    rw[HR.out]
    simp[results,Tryz.results173,go_sem,S0,S1]
    go_light
    (try simp_all[aQ,ek,aO,Kd.cells])
   ·refine ⟨rfl,?_⟩
    first|exact hacc|exact (hacc.setCell (by simp) _).setCell (by simp) _)
theorem vv (op:Int)(hop:op=10\/op=11\/op=12\/op=13\/op=18)(kd nu ar:Int)(st nm:ByteArray)(w:World)(b off:Nat)(c:Nat)(x:Kd)(y:Kd)(hx:In w (some ⟨b,off,none⟩) 2 c ([x,y]:List Kd)):
  Calls Tryz.prog 173 #[.agg (bS op kd nu st nm ar),.slice (some ⟨b,off,none⟩) 2 c] w λe w'=>e=.returned (.tuple #[.agg (aQ ⟨op,⟨kd,nu,st⟩,nm,ar⟩ ([x,y]:List Kd)).1.cells.toArray,.bool (aQ ⟨op,⟨kd,nu,st⟩,nm,ar⟩ ([x,y]:List Kd)).2])/\Below w.heap.size w w':=by
 obtain ⟨hB,x0,x1⟩:=bq hx (show 0<2 by omega) (x:=x) rfl
 obtain ⟨xk,xn⟩:=x
 obtain ⟨hB,y0,y1⟩:=bq hx (show 1<2 by omega) (x:=y) rfl
 obtain ⟨yk,yn⟩:=y
 simp only[Nat.zero_mul,Nat.one_mul,Nat.add_zero,Nat.reduceMul]at x0 x1 y0 y1
 simp only[bS]
 obtain ⟨R,hR⟩: ∃R:Value,R=.tuple #[.agg (aQ ⟨op,⟨kd,nu,st⟩,nm,ar⟩ ([⟨xk,xn⟩,⟨yk,yn⟩]:List Kd)).1.cells.toArray,.bool (aQ ⟨op,⟨kd,nu,st⟩,nm,ar⟩ ([⟨xk,xn⟩,⟨yk,yn⟩]:List Kd)).2]:=⟨_,rfl⟩
 rw[<-hR]
 have HR:=hide hR
 clear hR
 rcases hop with rfl|rfl|rfl|rfl|rfl
 all_goals (
  go_enter Tryz.func173,Tryz.ntmps173
  go_wp2_with (go_at_call 208;refine (dJ _ _ _ _ _ (hx.below below_alloc2)).mono ?_;rintro e w0 ⟨rfl,hb0⟩;have hacc:=aa below_alloc2 hb0;have hx2:=hb0;obtain ⟨hc0,hf0⟩:=ai hb0;have HS:=hide (bE (ah (b:=w.heap.size+1) (o:=0) (v:=.int .i64 0) hx2 (by simp) (by simp[go_sem])) (ah (b:=w.heap.size+1) (o:=1) (v:=.bool false) hx2 (by simp) (by simp[go_sem])));have xa:=ah hacc hB x0;have xb:=ah hacc hB x1;have ya:=ah hacc hB y0;have yb:=ah hacc hB y1;clear hb0)
  have hB0:=Nat.lt_of_lt_of_le hB hacc.size
  go_region_held3 (λV=>V.cell? ⟨b,off,none⟩=some (.int .i64 xk)/\V.cell? ⟨b,off+1,none⟩=some (.bool xn)/\V.cell? ⟨b,off+2,none⟩=some (.int .i64 yk)/\V.cell? ⟨b,off+2+1,none⟩=some (.bool yn)) (first|exact ⟨xa,xb,ya,yb⟩|(have hq:=ag hb1;exact ⟨ah hq hB0 xa,ah hq hB0 xb,ah hq hB0 ya,ah hq hB0 yb⟩)) (first|(go_at_call 211;refine (mI _ _ _ _ _).mono ?_;rintro e w1 ⟨rfl,hb1⟩))
  have hq:=ag hb1
  have hacc:=aa hacc hq
  have hx2:=aa hx2 hq
  clear hq hb1
  obtain ⟨hc1,hf1⟩:=ai hx2
  have HS:=hide (bE (ah (b:=w.heap.size+1) (o:=0) (v:=.int .i64 0) hx2 (by simp) (by simp[go_sem])) (ah (b:=w.heap.size+1) (o:=1) (v:=.bool false) hx2 (by simp) (by simp[go_sem])))
  have xa:=ah hacc hB x0
  have xb:=ah hacc hB x1
  have ya:=ah hacc hB y0
  have yb:=ah hacc hB y1
  go_wp2
  all_goals
   refine bodyPost_ret (v:=R) ?_ rfl ?_
   ·obtain ⟨S0,S1⟩:=HS.out
    rw[HR.out]
    simp[results,Tryz.results173,go_sem,S0,S1]
    go_light
    (try simp_all[aQ,ek,aO,Kd.cells])
   ·refine ⟨rfl,?_⟩
    first|exact hacc|exact (hacc.setCell (by simp) _).setCell (by simp) _)
theorem IW (yk:Int)(xn yn:Bool)(w:World):
  Calls Tryz.prog 189 #[.int .i64 4,.agg #[.int .i64 4,.bool xn],.agg #[.int .i64 yk,.bool yn]] w λe w'=>e=.returned (.tuple #[.agg (aO 4 ⟨4,xn⟩ ⟨yk,yn⟩).1.cells.toArray,.bool (aO 4 ⟨4,xn⟩ ⟨yk,yn⟩).2])/\Below w.heap.size w w':=by
 have hx2:=Below.refl (((w.alloc (.cells #[.int .i64 4,.bool xn] 173)).alloc (.cells #[.int .i64 yk,.bool yn] 173)).alloc (.cells #[.int .i64 0,.bool false] 173)).heap.size (((w.alloc (.cells #[.int .i64 4,.bool xn] 173)).alloc (.cells #[.int .i64 yk,.bool yn] 173)).alloc (.cells #[.int .i64 0,.bool false] 173))
 obtain ⟨R,hR⟩: ∃R:Value,R=.tuple #[.agg (aO 4 ⟨4,xn⟩ ⟨yk,yn⟩).1.cells.toArray,.bool (aO 4 ⟨4,xn⟩ ⟨yk,yn⟩).2]:=⟨_,rfl⟩
 rw[<-hR]
 have HR:=hide hR
 clear hR
 cases xn <;> cases yn
 all_goals (
  go_enter Tryz.func189,Tryz.ntmps189
  go_wp2_with (first|(go_at_call 186;refine (eD _ _ _ _).mono ?_;rintro e w1 ⟨rfl,hb1⟩;have hx2:=aa hx2 hb1;have c0:=(ai hx2).1 w.heap.size 0 (by simp <;> omega);have c1:=(ai hx2).1 w.heap.size 1 (by simp <;> omega);have e0:=(ai hx2).1 (w.heap.size+1) 0 (by simp <;> omega);have e1:=(ai hx2).1 (w.heap.size+1) 1 (by simp <;> omega);have d0:=(ai hx2).1 (w.heap.size+1+1) 0 (by simp <;> omega);have d1:=(ai hx2).1 (w.heap.size+1+1) 1 (by simp <;> omega);have F0:=(ai hx2).2 (w.heap.size+1+1) 0 (by simp <;> omega);have F1:=(ai hx2).2 (w.heap.size+1+1) 1 (by simp <;> omega);simp[go_sem]at c0 c1 e0 e1 d0 d1 F0 F1;have HB:Hid (Below w.heap.size w w1):=hide (aa (aa below_alloc2 af) hx2);have HS:=hide (dA d0 d1);clear hb1)|(go_at_call 185;refine (ic _ _ _ _ _).mono ?_;rintro e w1 ⟨rfl,hb1⟩;have hx2:=aa hx2 hb1;have c0:=(ai hx2).1 w.heap.size 0 (by simp <;> omega);have c1:=(ai hx2).1 w.heap.size 1 (by simp <;> omega);have e0:=(ai hx2).1 (w.heap.size+1) 0 (by simp <;> omega);have e1:=(ai hx2).1 (w.heap.size+1) 1 (by simp <;> omega);have d0:=(ai hx2).1 (w.heap.size+1+1) 0 (by simp <;> omega);have d1:=(ai hx2).1 (w.heap.size+1+1) 1 (by simp <;> omega);have F0:=(ai hx2).2 (w.heap.size+1+1) 0 (by simp <;> omega);have F1:=(ai hx2).2 (w.heap.size+1+1) 1 (by simp <;> omega);simp[go_sem]at c0 c1 e0 e1 d0 d1 F0 F1;have HB:Hid (Below w.heap.size w w1):=hide (aa (aa below_alloc2 af) hx2);have HS:=hide (dA d0 d1);clear hb1))
  all_goals (
   refine bodyPost_ret (v:=R) ?_ rfl ⟨rfl,by first|exact (HB.out.setCell (by simp <;> omega) _).setCell (by simp <;> omega) _|exact aa below_alloc2 af⟩
   rw[HR.out]
   first|(obtain ⟨S0,S1⟩:=HS.out;simp[results,Tryz.results189,go_sem,S0,S1])|simp[results,Tryz.results189,go_sem]
   all_goals (first|(simp[aO,Kd.cells];done)|(simp[aO,Kd.cells];intros;first|assumption|contradiction|simp_all))))
theorem IV (xk yk:Int)(xn yn:Bool)(w:World)(q1:(xk==4)=false)(q2:¬xk=4):
  Calls Tryz.prog 189 #[.int .i64 4,.agg #[.int .i64 xk,.bool xn],.agg #[.int .i64 yk,.bool yn]] w λe w'=>e=.returned (.tuple #[.agg (aO 4 ⟨xk,xn⟩ ⟨yk,yn⟩).1.cells.toArray,.bool (aO 4 ⟨xk,xn⟩ ⟨yk,yn⟩).2])/\Below w.heap.size w w':=by
 have hx2:=Below.refl (((w.alloc (.cells #[.int .i64 xk,.bool xn] 173)).alloc (.cells #[.int .i64 yk,.bool yn] 173)).alloc (.cells #[.int .i64 0,.bool false] 173)).heap.size (((w.alloc (.cells #[.int .i64 xk,.bool xn] 173)).alloc (.cells #[.int .i64 yk,.bool yn] 173)).alloc (.cells #[.int .i64 0,.bool false] 173))
 obtain ⟨R,hR⟩: ∃R:Value,R=.tuple #[.agg (aO 4 ⟨xk,xn⟩ ⟨yk,yn⟩).1.cells.toArray,.bool (aO 4 ⟨xk,xn⟩ ⟨yk,yn⟩).2]:=⟨_,rfl⟩
 rw[<-hR]
 have HR:=hide hR
 clear hR
 cases xn <;> cases yn
 all_goals (
  go_enter Tryz.func189,Tryz.ntmps189
  go_wp2_with (first|(go_at_call 186;refine (eD _ _ _ _).mono ?_;rintro e w1 ⟨rfl,hb1⟩;have hx2:=aa hx2 hb1;have c0:=(ai hx2).1 w.heap.size 0 (by simp <;> omega);have c1:=(ai hx2).1 w.heap.size 1 (by simp <;> omega);have e0:=(ai hx2).1 (w.heap.size+1) 0 (by simp <;> omega);have e1:=(ai hx2).1 (w.heap.size+1) 1 (by simp <;> omega);have d0:=(ai hx2).1 (w.heap.size+1+1) 0 (by simp <;> omega);have d1:=(ai hx2).1 (w.heap.size+1+1) 1 (by simp <;> omega);have F0:=(ai hx2).2 (w.heap.size+1+1) 0 (by simp <;> omega);have F1:=(ai hx2).2 (w.heap.size+1+1) 1 (by simp <;> omega);simp[go_sem]at c0 c1 e0 e1 d0 d1 F0 F1;have HB:Hid (Below w.heap.size w w1):=hide (aa (aa below_alloc2 af) hx2);have HS:=hide (dA d0 d1);clear hb1)|(go_at_call 185;refine (ic _ _ _ _ _).mono ?_;rintro e w1 ⟨rfl,hb1⟩;have hx2:=aa hx2 hb1;have c0:=(ai hx2).1 w.heap.size 0 (by simp <;> omega);have c1:=(ai hx2).1 w.heap.size 1 (by simp <;> omega);have e0:=(ai hx2).1 (w.heap.size+1) 0 (by simp <;> omega);have e1:=(ai hx2).1 (w.heap.size+1) 1 (by simp <;> omega);have d0:=(ai hx2).1 (w.heap.size+1+1) 0 (by simp <;> omega);have d1:=(ai hx2).1 (w.heap.size+1+1) 1 (by simp <;> omega);have F0:=(ai hx2).2 (w.heap.size+1+1) 0 (by simp <;> omega);have F1:=(ai hx2).2 (w.heap.size+1+1) 1 (by simp <;> omega);simp[go_sem]at c0 c1 e0 e1 d0 d1 F0 F1;have HB:Hid (Below w.heap.size w w1):=hide (aa (aa below_alloc2 af) hx2);have HS:=hide (dA d0 d1);clear hb1))
  all_goals (
   refine bodyPost_ret (v:=R) ?_ rfl ⟨rfl,by first|exact (HB.out.setCell (by simp <;> omega) _).setCell (by simp <;> omega) _|exact aa below_alloc2 af⟩
   rw[HR.out]
   first|(obtain ⟨S0,S1⟩:=HS.out;simp[results,Tryz.results189,go_sem,S0,S1])|simp[results,Tryz.results189,go_sem]
   all_goals (first|(simp[aO,Kd.cells,q2];done)|(simp[aO,Kd.cells,q2];intros;first|assumption|contradiction|simp_all))))
theorem uB (op:Int)(hop:op=6\/op=7\/op=8\/op=9)(xk yk:Int)(xn yn:Bool)(w:World):
  Calls Tryz.prog 189 #[.int .i64 op,.agg #[.int .i64 xk,.bool xn],.agg #[.int .i64 yk,.bool yn]] w λe w'=>e=.returned (.tuple #[.agg (aO op ⟨xk,xn⟩ ⟨yk,yn⟩).1.cells.toArray,.bool (aO op ⟨xk,xn⟩ ⟨yk,yn⟩).2])/\Below w.heap.size w w':=by
 have hx2:=Below.refl (((w.alloc (.cells #[.int .i64 xk,.bool xn] 173)).alloc (.cells #[.int .i64 yk,.bool yn] 173)).alloc (.cells #[.int .i64 0,.bool false] 173)).heap.size (((w.alloc (.cells #[.int .i64 xk,.bool xn] 173)).alloc (.cells #[.int .i64 yk,.bool yn] 173)).alloc (.cells #[.int .i64 0,.bool false] 173))
 obtain ⟨R,hR⟩: ∃R:Value,R=.tuple #[.agg (aO op ⟨xk,xn⟩ ⟨yk,yn⟩).1.cells.toArray,.bool (aO op ⟨xk,xn⟩ ⟨yk,yn⟩).2]:=⟨_,rfl⟩
 rw[<-hR]
 have HR:=hide hR
 clear hR
 rcases hop with rfl|rfl|rfl|rfl <;> cases xn <;> cases yn
 all_goals (
  go_enter Tryz.func189,Tryz.ntmps189
  go_wp2_with (first|(go_at_call 186;refine (eD _ _ _ _).mono ?_;rintro e w1 ⟨rfl,hb1⟩;have hx2:=aa hx2 hb1;have c0:=(ai hx2).1 w.heap.size 0 (by simp <;> omega);have c1:=(ai hx2).1 w.heap.size 1 (by simp <;> omega);have e0:=(ai hx2).1 (w.heap.size+1) 0 (by simp <;> omega);have e1:=(ai hx2).1 (w.heap.size+1) 1 (by simp <;> omega);have d0:=(ai hx2).1 (w.heap.size+1+1) 0 (by simp <;> omega);have d1:=(ai hx2).1 (w.heap.size+1+1) 1 (by simp <;> omega);have F0:=(ai hx2).2 (w.heap.size+1+1) 0 (by simp <;> omega);have F1:=(ai hx2).2 (w.heap.size+1+1) 1 (by simp <;> omega);simp[go_sem]at c0 c1 e0 e1 d0 d1 F0 F1;have HB:Hid (Below w.heap.size w w1):=hide (aa (aa below_alloc2 af) hx2);have HS:=hide (dA d0 d1);clear hb1)|(go_at_call 185;refine (ic _ _ _ _ _).mono ?_;rintro e w1 ⟨rfl,hb1⟩;have hx2:=aa hx2 hb1;have c0:=(ai hx2).1 w.heap.size 0 (by simp <;> omega);have c1:=(ai hx2).1 w.heap.size 1 (by simp <;> omega);have e0:=(ai hx2).1 (w.heap.size+1) 0 (by simp <;> omega);have e1:=(ai hx2).1 (w.heap.size+1) 1 (by simp <;> omega);have d0:=(ai hx2).1 (w.heap.size+1+1) 0 (by simp <;> omega);have d1:=(ai hx2).1 (w.heap.size+1+1) 1 (by simp <;> omega);have F0:=(ai hx2).2 (w.heap.size+1+1) 0 (by simp <;> omega);have F1:=(ai hx2).2 (w.heap.size+1+1) 1 (by simp <;> omega);simp[go_sem]at c0 c1 e0 e1 d0 d1 F0 F1;have HB:Hid (Below w.heap.size w w1):=hide (aa (aa below_alloc2 af) hx2);have HS:=hide (dA d0 d1);clear hb1))
  all_goals (
   refine bodyPost_ret (v:=R) ?_ rfl ⟨rfl,by first|exact (HB.out.setCell (by simp <;> omega) _).setCell (by simp <;> omega) _|exact aa below_alloc2 af⟩
   rw[HR.out]
   first|(obtain ⟨S0,S1⟩:=HS.out;simp[results,Tryz.results189,go_sem,S0,S1])|simp[results,Tryz.results189,go_sem]
   all_goals (first|(simp[aO,Kd.cells];done)|(simp[aO,Kd.cells];intros;first|assumption|contradiction|simp_all))))
theorem uC (op:Int)(hop:op=10\/op=11\/op=12\/op=13)(xk yk:Int)(xn yn:Bool)(w:World):
  Calls Tryz.prog 189 #[.int .i64 op,.agg #[.int .i64 xk,.bool xn],.agg #[.int .i64 yk,.bool yn]] w λe w'=>e=.returned (.tuple #[.agg (aO op ⟨xk,xn⟩ ⟨yk,yn⟩).1.cells.toArray,.bool (aO op ⟨xk,xn⟩ ⟨yk,yn⟩).2])/\Below w.heap.size w w':=by
 have hx2:=Below.refl (((w.alloc (.cells #[.int .i64 xk,.bool xn] 173)).alloc (.cells #[.int .i64 yk,.bool yn] 173)).alloc (.cells #[.int .i64 0,.bool false] 173)).heap.size (((w.alloc (.cells #[.int .i64 xk,.bool xn] 173)).alloc (.cells #[.int .i64 yk,.bool yn] 173)).alloc (.cells #[.int .i64 0,.bool false] 173))
 obtain ⟨R,hR⟩: ∃R:Value,R=.tuple #[.agg (aO op ⟨xk,xn⟩ ⟨yk,yn⟩).1.cells.toArray,.bool (aO op ⟨xk,xn⟩ ⟨yk,yn⟩).2]:=⟨_,rfl⟩
 rw[<-hR]
 have HR:=hide hR
 clear hR
 rcases hop with rfl|rfl|rfl|rfl <;> cases xn <;> cases yn
 all_goals (
  go_enter Tryz.func189,Tryz.ntmps189
  go_wp2_with (first|(go_at_call 186;refine (eD _ _ _ _).mono ?_;rintro e w1 ⟨rfl,hb1⟩;have hx2:=aa hx2 hb1;have c0:=(ai hx2).1 w.heap.size 0 (by simp <;> omega);have c1:=(ai hx2).1 w.heap.size 1 (by simp <;> omega);have e0:=(ai hx2).1 (w.heap.size+1) 0 (by simp <;> omega);have e1:=(ai hx2).1 (w.heap.size+1) 1 (by simp <;> omega);have d0:=(ai hx2).1 (w.heap.size+1+1) 0 (by simp <;> omega);have d1:=(ai hx2).1 (w.heap.size+1+1) 1 (by simp <;> omega);have F0:=(ai hx2).2 (w.heap.size+1+1) 0 (by simp <;> omega);have F1:=(ai hx2).2 (w.heap.size+1+1) 1 (by simp <;> omega);simp[go_sem]at c0 c1 e0 e1 d0 d1 F0 F1;have HB:Hid (Below w.heap.size w w1):=hide (aa (aa below_alloc2 af) hx2);have HS:=hide (dA d0 d1);clear hb1)|(go_at_call 185;refine (ic _ _ _ _ _).mono ?_;rintro e w1 ⟨rfl,hb1⟩;have hx2:=aa hx2 hb1;have c0:=(ai hx2).1 w.heap.size 0 (by simp <;> omega);have c1:=(ai hx2).1 w.heap.size 1 (by simp <;> omega);have e0:=(ai hx2).1 (w.heap.size+1) 0 (by simp <;> omega);have e1:=(ai hx2).1 (w.heap.size+1) 1 (by simp <;> omega);have d0:=(ai hx2).1 (w.heap.size+1+1) 0 (by simp <;> omega);have d1:=(ai hx2).1 (w.heap.size+1+1) 1 (by simp <;> omega);have F0:=(ai hx2).2 (w.heap.size+1+1) 0 (by simp <;> omega);have F1:=(ai hx2).2 (w.heap.size+1+1) 1 (by simp <;> omega);simp[go_sem]at c0 c1 e0 e1 d0 d1 F0 F1;have HB:Hid (Below w.heap.size w w1):=hide (aa (aa below_alloc2 af) hx2);have HS:=hide (dA d0 d1);clear hb1))
  all_goals (
   refine bodyPost_ret (v:=R) ?_ rfl ⟨rfl,by first|exact (HB.out.setCell (by simp <;> omega) _).setCell (by simp <;> omega) _|exact aa below_alloc2 af⟩
   rw[HR.out]
   first|(obtain ⟨S0,S1⟩:=HS.out;simp[results,Tryz.results189,go_sem,S0,S1])|simp[results,Tryz.results189,go_sem]
   all_goals (first|(simp[aO,Kd.cells];done)|(simp[aO,Kd.cells];intros;first|assumption|contradiction|simp_all))))
theorem yD (op:Int)(hop:op=14\/op=15\/op=18)(xk yk:Int)(xn yn:Bool)(w:World):
  Calls Tryz.prog 189 #[.int .i64 op,.agg #[.int .i64 xk,.bool xn],.agg #[.int .i64 yk,.bool yn]] w λe w'=>e=.returned (.tuple #[.agg (aO op ⟨xk,xn⟩ ⟨yk,yn⟩).1.cells.toArray,.bool (aO op ⟨xk,xn⟩ ⟨yk,yn⟩).2])/\Below w.heap.size w w':=by
 have hx2:=Below.refl (((w.alloc (.cells #[.int .i64 xk,.bool xn] 173)).alloc (.cells #[.int .i64 yk,.bool yn] 173)).alloc (.cells #[.int .i64 0,.bool false] 173)).heap.size (((w.alloc (.cells #[.int .i64 xk,.bool xn] 173)).alloc (.cells #[.int .i64 yk,.bool yn] 173)).alloc (.cells #[.int .i64 0,.bool false] 173))
 obtain ⟨R,hR⟩: ∃R:Value,R=.tuple #[.agg (aO op ⟨xk,xn⟩ ⟨yk,yn⟩).1.cells.toArray,.bool (aO op ⟨xk,xn⟩ ⟨yk,yn⟩).2]:=⟨_,rfl⟩
 rw[<-hR]
 have HR:=hide hR
 clear hR
 rcases hop with rfl|rfl|rfl <;> cases xn <;> cases yn
 all_goals (
  go_enter Tryz.func189,Tryz.ntmps189
  go_wp2_with (first|(go_at_call 186;refine (eD _ _ _ _).mono ?_;rintro e w1 ⟨rfl,hb1⟩;have hx2:=aa hx2 hb1;have c0:=(ai hx2).1 w.heap.size 0 (by simp <;> omega);have c1:=(ai hx2).1 w.heap.size 1 (by simp <;> omega);have e0:=(ai hx2).1 (w.heap.size+1) 0 (by simp <;> omega);have e1:=(ai hx2).1 (w.heap.size+1) 1 (by simp <;> omega);have d0:=(ai hx2).1 (w.heap.size+1+1) 0 (by simp <;> omega);have d1:=(ai hx2).1 (w.heap.size+1+1) 1 (by simp <;> omega);have F0:=(ai hx2).2 (w.heap.size+1+1) 0 (by simp <;> omega);have F1:=(ai hx2).2 (w.heap.size+1+1) 1 (by simp <;> omega);simp[go_sem]at c0 c1 e0 e1 d0 d1 F0 F1;have HB:Hid (Below w.heap.size w w1):=hide (aa (aa below_alloc2 af) hx2);have HS:=hide (dA d0 d1);clear hb1)|(go_at_call 185;refine (ic _ _ _ _ _).mono ?_;rintro e w1 ⟨rfl,hb1⟩;have hx2:=aa hx2 hb1;have c0:=(ai hx2).1 w.heap.size 0 (by simp <;> omega);have c1:=(ai hx2).1 w.heap.size 1 (by simp <;> omega);have e0:=(ai hx2).1 (w.heap.size+1) 0 (by simp <;> omega);have e1:=(ai hx2).1 (w.heap.size+1) 1 (by simp <;> omega);have d0:=(ai hx2).1 (w.heap.size+1+1) 0 (by simp <;> omega);have d1:=(ai hx2).1 (w.heap.size+1+1) 1 (by simp <;> omega);have F0:=(ai hx2).2 (w.heap.size+1+1) 0 (by simp <;> omega);have F1:=(ai hx2).2 (w.heap.size+1+1) 1 (by simp <;> omega);simp[go_sem]at c0 c1 e0 e1 d0 d1 F0 F1;have HB:Hid (Below w.heap.size w w1):=hide (aa (aa below_alloc2 af) hx2);have HS:=hide (dA d0 d1);clear hb1))
  all_goals (
   refine bodyPost_ret (v:=R) ?_ rfl ⟨rfl,by first|exact (HB.out.setCell (by simp <;> omega) _).setCell (by simp <;> omega) _|exact aa below_alloc2 af⟩
   rw[HR.out]
   first|(obtain ⟨S0,S1⟩:=HS.out;simp[results,Tryz.results189,go_sem,S0,S1])|simp[results,Tryz.results189,go_sem]
   all_goals (first|(simp[aO,Kd.cells];done)|(simp[aO,Kd.cells];intros;first|assumption|contradiction|simp_all))))
end Go.Proofs.YtggejcekmehocaaGreatDoor
