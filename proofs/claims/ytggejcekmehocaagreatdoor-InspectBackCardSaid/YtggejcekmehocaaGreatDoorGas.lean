/-
  scalar.typed: it returns opKd, operator by operator. (Printed by gen_typed.py.) scalar.typed: it returns opKd, at OpIf. (Printed by gen_typed.py.)
-/
import Derived.Test.YtggejcekmehocaaGreatDoorGak
import Derived.Test.YtggejcekmehocaaGreatDoorGap
namespace Go.Proofs.YtggejcekmehocaaGreatDoor
set_option maxHeartbeats 4000000
set_option maxRecDepth 100000
open Go.RowKit
set_option linter.unusedSimpArgs false
set_option linter.unusedVariables false
theorem made_two {w:World}{g:Nat}{u0 u1:Value}(h0:w.cell? ⟨g,0,none⟩=some u0)(h1:w.cell? ⟨g,1,none⟩=some u1):
  (∀a,(w.setCell ⟨g,0,none⟩ a).cell? ⟨g,0,none⟩=some a)/\(∀a b,((w.setCell ⟨g,0,none⟩ a).setCell ⟨g,1,none⟩ b).cell? ⟨g,1,none⟩=some b):=
 ⟨λa=>set_same h0,λa b=>set_same (set_far h1 (.inr (by omega)))⟩
theorem kd_cells {w:World}{b off n c k:Nat}{xs:List Kd}(h:In w (some ⟨b,off,none⟩) n c xs)(hk:k<n){x:Kd}(hx:xs[k]?=some x):
  b<w.heap.size/\w.cell? ⟨b,off+k*2,none⟩=some (.int .i64 x.kind)/\w.cell? ⟨b,off+k*2+1,none⟩=some (.bool x.null):=by
 obtain ⟨b',off',y,e,hb,HY,f0,f1,f2⟩:=h.kd hk
 injection e with e
 injection e with e1 e2
 subst e1 e2
 have:=(drop_get HY.out).1
 rw[hx]at this
 injection this with this
 subst this
 exact ⟨hb,f0,f1⟩
theorem typed_0 (kd nu ar:Int)(st nm:ByteArray)(w:World)(A:Option Addr)(c:Nat)(hx:In w A 0 c ([]:List Kd)):
  Calls Tryz.prog 173 #[.agg (ncells 0 kd nu st nm ar),.slice A 0 c] w λe w'=>e=.returned (.tuple #[.agg (opKd ⟨0,⟨kd,nu,st⟩,nm,ar⟩ ([]:List Kd)).1.cells.toArray,.bool (opKd ⟨0,⟨kd,nu,st⟩,nm,ar⟩ ([]:List Kd)).2])/\Below w.heap.size w w':=by
 simp only[ncells]
 go_enter Tryz.func173,Tryz.ntmps173
 go_wp2_with (first|(go_at_call 208;refine (containsFunc_kd _ _ _ _ _ (hx.below below_alloc2)).mono ?_;rintro e w0 ⟨rfl,hb0⟩;have hacc:=below_trans below_alloc2 hb0;have hx2:=hb0;obtain ⟨hc0,hf0⟩:=bcell hb0;have HS:=hide (made_two (bat (b:=w.heap.size+1) (o:=0) (v:=.int .i64 0) hx2 (by simp) (by simp[go_sem])) (bat (b:=w.heap.size+1) (o:=1) (v:=.bool false) hx2 (by simp) (by simp[go_sem])));clear hb0)|(go_at_call 210;refine (fits_any _ _ _ _).mono ?_;rintro e w1 ⟨rfl,hb1⟩;have hacc:=below_trans hacc hb1;have hx2:=below_trans hx2 hb1;obtain ⟨hc1,hf1⟩:=bcell hx2;have HS:=hide (made_two (bat (b:=w.heap.size+1) (o:=0) (v:=.int .i64 0) hx2 (by simp) (by simp[go_sem])) (bat (b:=w.heap.size+1) (o:=1) (v:=.bool false) hx2 (by simp) (by simp[go_sem])));clear hb1))
 all_goals
  refine bodyPost_ret (v:=.tuple #[.agg (opKd ⟨0,⟨kd,nu,st⟩,nm,ar⟩ ([]:List Kd)).1.cells.toArray,.bool (opKd ⟨0,⟨kd,nu,st⟩,nm,ar⟩ ([]:List Kd)).2]) ?_ rfl ?_
  ·obtain ⟨S0,S1⟩:=HS.out
   simp[results,Tryz.results173,go_sem,S0,S1]
   go_light
   (try simp_all[opKd,unKd,binKd,Kd.cells])
  ·refine ⟨rfl,?_⟩
   first|exact hacc|exact (hacc.setCell (by simp) _).setCell (by simp) _
theorem typed_2 (kd nu ar:Int)(st nm:ByteArray)(w:World)(b off:Nat)(c:Nat)(x:Kd)(hx:In w (some ⟨b,off,none⟩) 1 c ([x]:List Kd)):
  Calls Tryz.prog 173 #[.agg (ncells 2 kd nu st nm ar),.slice (some ⟨b,off,none⟩) 1 c] w λe w'=>e=.returned (.tuple #[.agg (opKd ⟨2,⟨kd,nu,st⟩,nm,ar⟩ ([x]:List Kd)).1.cells.toArray,.bool (opKd ⟨2,⟨kd,nu,st⟩,nm,ar⟩ ([x]:List Kd)).2])/\Below w.heap.size w w':=by
 obtain ⟨hB,x0,x1⟩:=kd_cells hx (show 0<1 by omega) (x:=x) rfl
 obtain ⟨xk,xn⟩:=x
 simp only[Nat.zero_mul,Nat.one_mul,Nat.add_zero,Nat.reduceMul]at x0 x1
 simp only[ncells]
 go_enter Tryz.func173,Tryz.ntmps173
 go_wp2_with (first|(go_at_call 208;refine (containsFunc_kd _ _ _ _ _ (hx.below below_alloc2)).mono ?_;rintro e w0 ⟨rfl,hb0⟩;have hacc:=below_trans below_alloc2 hb0;have hx2:=hb0;obtain ⟨hc0,hf0⟩:=bcell hb0;have HS:=hide (made_two (bat (b:=w.heap.size+1) (o:=0) (v:=.int .i64 0) hx2 (by simp) (by simp[go_sem])) (bat (b:=w.heap.size+1) (o:=1) (v:=.bool false) hx2 (by simp) (by simp[go_sem])));have xa:=bat hacc hB x0;have xb:=bat hacc hB x1;clear hb0)|(go_at_call 210;refine (fits_any _ _ _ _).mono ?_;rintro e w1 ⟨rfl,hb1⟩;have hacc:=below_trans hacc hb1;have hx2:=below_trans hx2 hb1;obtain ⟨hc1,hf1⟩:=bcell hx2;have HS:=hide (made_two (bat (b:=w.heap.size+1) (o:=0) (v:=.int .i64 0) hx2 (by simp) (by simp[go_sem])) (bat (b:=w.heap.size+1) (o:=1) (v:=.bool false) hx2 (by simp) (by simp[go_sem])));have xa:=bat hacc hB x0;have xb:=bat hacc hB x1;clear hb1))
 all_goals
  refine bodyPost_ret (v:=.tuple #[.agg (opKd ⟨2,⟨kd,nu,st⟩,nm,ar⟩ ([⟨xk,xn⟩]:List Kd)).1.cells.toArray,.bool (opKd ⟨2,⟨kd,nu,st⟩,nm,ar⟩ ([⟨xk,xn⟩]:List Kd)).2]) ?_ rfl ?_
  ·obtain ⟨S0,S1⟩:=HS.out
   simp[results,Tryz.results173,go_sem,S0,S1]
   go_light
   (try simp_all[opKd,unKd,binKd,Kd.cells])
  ·refine ⟨rfl,?_⟩
   first|exact hacc|exact (hacc.setCell (by simp) _).setCell (by simp) _
theorem typed_D (op:Int)(hop:op=3\/op=16\/op=19\/op=20)(kd nu ar:Int)(st nm:ByteArray)(w:World)(b off:Nat)(c:Nat)(x:Kd)(hx:In w (some ⟨b,off,none⟩) 1 c ([x]:List Kd)):
  Calls Tryz.prog 173 #[.agg (ncells op kd nu st nm ar),.slice (some ⟨b,off,none⟩) 1 c] w λe w'=>e=.returned (.tuple #[.agg (opKd ⟨op,⟨kd,nu,st⟩,nm,ar⟩ ([x]:List Kd)).1.cells.toArray,.bool (opKd ⟨op,⟨kd,nu,st⟩,nm,ar⟩ ([x]:List Kd)).2])/\Below w.heap.size w w':=by
 obtain ⟨hB,x0,x1⟩:=kd_cells hx (show 0<1 by omega) (x:=x) rfl
 obtain ⟨xk,xn⟩:=x
 simp only[Nat.zero_mul,Nat.one_mul,Nat.add_zero,Nat.reduceMul]at x0 x1
 simp only[ncells]
 obtain ⟨R,hR⟩: ∃R:Value,R=.tuple #[.agg (opKd ⟨op,⟨kd,nu,st⟩,nm,ar⟩ ([⟨xk,xn⟩]:List Kd)).1.cells.toArray,.bool (opKd ⟨op,⟨kd,nu,st⟩,nm,ar⟩ ([⟨xk,xn⟩]:List Kd)).2]:=⟨_,rfl⟩
 rw[<-hR]
 have HR:=hide hR
 clear hR
 rcases hop with rfl|rfl|rfl|rfl
 all_goals (
  go_enter Tryz.func173,Tryz.ntmps173
  go_wp2_with (first|(go_at_call 208;refine (containsFunc_kd _ _ _ _ _ (hx.below below_alloc2)).mono ?_;rintro e w0 ⟨rfl,hb0⟩;have hacc:=below_trans below_alloc2 hb0;have hx2:=hb0;obtain ⟨hc0,hf0⟩:=bcell hb0;have HS:=hide (made_two (bat (b:=w.heap.size+1) (o:=0) (v:=.int .i64 0) hx2 (by simp) (by simp[go_sem])) (bat (b:=w.heap.size+1) (o:=1) (v:=.bool false) hx2 (by simp) (by simp[go_sem])));have xa:=bat hacc hB x0;have xb:=bat hacc hB x1;clear hb0)|(go_at_call 210;refine (fits_any _ _ _ _).mono ?_;rintro e w1 ⟨rfl,hb1⟩;have hacc:=below_trans hacc hb1;have hx2:=below_trans hx2 hb1;obtain ⟨hc1,hf1⟩:=bcell hx2;have HS:=hide (made_two (bat (b:=w.heap.size+1) (o:=0) (v:=.int .i64 0) hx2 (by simp) (by simp[go_sem])) (bat (b:=w.heap.size+1) (o:=1) (v:=.bool false) hx2 (by simp) (by simp[go_sem])));have xa:=bat hacc hB x0;have xb:=bat hacc hB x1;clear hb1))
  all_goals
   refine bodyPost_ret (v:=R) ?_ rfl ?_
   ·obtain ⟨S0,S1⟩:=HS.out
    rw[HR.out]
    simp[results,Tryz.results173,go_sem,S0,S1]
    go_light
    (try simp_all[opKd,unKd,binKd,Kd.cells])
   ·refine ⟨rfl,?_⟩
    first|exact hacc|exact (hacc.setCell (by simp) _).setCell (by simp) _)
theorem typed_A (op:Int)(hop:op=4\/op=5\/op=6\/op=7)(kd nu ar:Int)(st nm:ByteArray)(w:World)(b off:Nat)(c:Nat)(x:Kd)(y:Kd)(hx:In w (some ⟨b,off,none⟩) 2 c ([x,y]:List Kd)):
  Calls Tryz.prog 173 #[.agg (ncells op kd nu st nm ar),.slice (some ⟨b,off,none⟩) 2 c] w λe w'=>e=.returned (.tuple #[.agg (opKd ⟨op,⟨kd,nu,st⟩,nm,ar⟩ ([x,y]:List Kd)).1.cells.toArray,.bool (opKd ⟨op,⟨kd,nu,st⟩,nm,ar⟩ ([x,y]:List Kd)).2])/\Below w.heap.size w w':=by
 obtain ⟨hB,x0,x1⟩:=kd_cells hx (show 0<2 by omega) (x:=x) rfl
 obtain ⟨xk,xn⟩:=x
 obtain ⟨hB,y0,y1⟩:=kd_cells hx (show 1<2 by omega) (x:=y) rfl
 obtain ⟨yk,yn⟩:=y
 simp only[Nat.zero_mul,Nat.one_mul,Nat.add_zero,Nat.reduceMul]at x0 x1 y0 y1
 simp only[ncells]
 obtain ⟨R,hR⟩: ∃R:Value,R=.tuple #[.agg (opKd ⟨op,⟨kd,nu,st⟩,nm,ar⟩ ([⟨xk,xn⟩,⟨yk,yn⟩]:List Kd)).1.cells.toArray,.bool (opKd ⟨op,⟨kd,nu,st⟩,nm,ar⟩ ([⟨xk,xn⟩,⟨yk,yn⟩]:List Kd)).2]:=⟨_,rfl⟩
 rw[<-hR]
 have HR:=hide hR
 clear hR
 rcases hop with rfl|rfl|rfl|rfl
 all_goals (
  go_enter Tryz.func173,Tryz.ntmps173
  go_wp2_with (first|(go_at_call 208;refine (containsFunc_kd _ _ _ _ _ (hx.below below_alloc2)).mono ?_;rintro e w0 ⟨rfl,hb0⟩;have hacc:=below_trans below_alloc2 hb0;have hx2:=hb0;obtain ⟨hc0,hf0⟩:=bcell hb0;have HS:=hide (made_two (bat (b:=w.heap.size+1) (o:=0) (v:=.int .i64 0) hx2 (by simp) (by simp[go_sem])) (bat (b:=w.heap.size+1) (o:=1) (v:=.bool false) hx2 (by simp) (by simp[go_sem])));have xa:=bat hacc hB x0;have xb:=bat hacc hB x1;have ya:=bat hacc hB y0;have yb:=bat hacc hB y1;clear hb0)|(go_at_call 210;refine (fits_any _ _ _ _).mono ?_;rintro e w1 ⟨rfl,hb1⟩;have hacc:=below_trans hacc hb1;have hx2:=below_trans hx2 hb1;obtain ⟨hc1,hf1⟩:=bcell hx2;have HS:=hide (made_two (bat (b:=w.heap.size+1) (o:=0) (v:=.int .i64 0) hx2 (by simp) (by simp[go_sem])) (bat (b:=w.heap.size+1) (o:=1) (v:=.bool false) hx2 (by simp) (by simp[go_sem])));have xa:=bat hacc hB x0;have xb:=bat hacc hB x1;have ya:=bat hacc hB y0;have yb:=bat hacc hB y1;clear hb1))
  all_goals
   refine bodyPost_ret (v:=R) ?_ rfl ?_
   ·obtain ⟨S0,S1⟩:=HS.out
    rw[HR.out]
    simp[results,Tryz.results173,go_sem,S0,S1]
    go_light
    (try simp_all[opKd,unKd,binKd,Kd.cells])
   ·refine ⟨rfl,?_⟩
    first|exact hacc|exact (hacc.setCell (by simp) _).setCell (by simp) _)
theorem typed_B (op:Int)(hop:op=8\/op=9\/op=14\/op=15)(kd nu ar:Int)(st nm:ByteArray)(w:World)(b off:Nat)(c:Nat)(x:Kd)(y:Kd)(hx:In w (some ⟨b,off,none⟩) 2 c ([x,y]:List Kd)):
  Calls Tryz.prog 173 #[.agg (ncells op kd nu st nm ar),.slice (some ⟨b,off,none⟩) 2 c] w λe w'=>e=.returned (.tuple #[.agg (opKd ⟨op,⟨kd,nu,st⟩,nm,ar⟩ ([x,y]:List Kd)).1.cells.toArray,.bool (opKd ⟨op,⟨kd,nu,st⟩,nm,ar⟩ ([x,y]:List Kd)).2])/\Below w.heap.size w w':=by
 obtain ⟨hB,x0,x1⟩:=kd_cells hx (show 0<2 by omega) (x:=x) rfl
 obtain ⟨xk,xn⟩:=x
 obtain ⟨hB,y0,y1⟩:=kd_cells hx (show 1<2 by omega) (x:=y) rfl
 obtain ⟨yk,yn⟩:=y
 simp only[Nat.zero_mul,Nat.one_mul,Nat.add_zero,Nat.reduceMul]at x0 x1 y0 y1
 simp only[ncells]
 obtain ⟨R,hR⟩: ∃R:Value,R=.tuple #[.agg (opKd ⟨op,⟨kd,nu,st⟩,nm,ar⟩ ([⟨xk,xn⟩,⟨yk,yn⟩]:List Kd)).1.cells.toArray,.bool (opKd ⟨op,⟨kd,nu,st⟩,nm,ar⟩ ([⟨xk,xn⟩,⟨yk,yn⟩]:List Kd)).2]:=⟨_,rfl⟩
 rw[<-hR]
 have HR:=hide hR
 clear hR
 rcases hop with rfl|rfl|rfl|rfl
 all_goals (
  go_enter Tryz.func173,Tryz.ntmps173
  go_wp2_with (first|(go_at_call 208;refine (containsFunc_kd _ _ _ _ _ (hx.below below_alloc2)).mono ?_;rintro e w0 ⟨rfl,hb0⟩;have hacc:=below_trans below_alloc2 hb0;have hx2:=hb0;obtain ⟨hc0,hf0⟩:=bcell hb0;have HS:=hide (made_two (bat (b:=w.heap.size+1) (o:=0) (v:=.int .i64 0) hx2 (by simp) (by simp[go_sem])) (bat (b:=w.heap.size+1) (o:=1) (v:=.bool false) hx2 (by simp) (by simp[go_sem])));have xa:=bat hacc hB x0;have xb:=bat hacc hB x1;have ya:=bat hacc hB y0;have yb:=bat hacc hB y1;clear hb0)|(go_at_call 210;refine (fits_any _ _ _ _).mono ?_;rintro e w1 ⟨rfl,hb1⟩;have hacc:=below_trans hacc hb1;have hx2:=below_trans hx2 hb1;obtain ⟨hc1,hf1⟩:=bcell hx2;have HS:=hide (made_two (bat (b:=w.heap.size+1) (o:=0) (v:=.int .i64 0) hx2 (by simp) (by simp[go_sem])) (bat (b:=w.heap.size+1) (o:=1) (v:=.bool false) hx2 (by simp) (by simp[go_sem])));have xa:=bat hacc hB x0;have xb:=bat hacc hB x1;have ya:=bat hacc hB y0;have yb:=bat hacc hB y1;clear hb1))
  all_goals
   refine bodyPost_ret (v:=R) ?_ rfl ?_
   ·obtain ⟨S0,S1⟩:=HS.out
    rw[HR.out]
    simp[results,Tryz.results173,go_sem,S0,S1]
    go_light
    (try simp_all[opKd,unKd,binKd,Kd.cells])
   ·refine ⟨rfl,?_⟩
    first|exact hacc|exact (hacc.setCell (by simp) _).setCell (by simp) _)
theorem typed_C (op:Int)(hop:op=10\/op=11\/op=12\/op=13\/op=18)(kd nu ar:Int)(st nm:ByteArray)(w:World)(b off:Nat)(c:Nat)(x:Kd)(y:Kd)(hx:In w (some ⟨b,off,none⟩) 2 c ([x,y]:List Kd)):
  Calls Tryz.prog 173 #[.agg (ncells op kd nu st nm ar),.slice (some ⟨b,off,none⟩) 2 c] w λe w'=>e=.returned (.tuple #[.agg (opKd ⟨op,⟨kd,nu,st⟩,nm,ar⟩ ([x,y]:List Kd)).1.cells.toArray,.bool (opKd ⟨op,⟨kd,nu,st⟩,nm,ar⟩ ([x,y]:List Kd)).2])/\Below w.heap.size w w':=by
 obtain ⟨hB,x0,x1⟩:=kd_cells hx (show 0<2 by omega) (x:=x) rfl
 obtain ⟨xk,xn⟩:=x
 obtain ⟨hB,y0,y1⟩:=kd_cells hx (show 1<2 by omega) (x:=y) rfl
 obtain ⟨yk,yn⟩:=y
 simp only[Nat.zero_mul,Nat.one_mul,Nat.add_zero,Nat.reduceMul]at x0 x1 y0 y1
 simp only[ncells]
 obtain ⟨R,hR⟩: ∃R:Value,R=.tuple #[.agg (opKd ⟨op,⟨kd,nu,st⟩,nm,ar⟩ ([⟨xk,xn⟩,⟨yk,yn⟩]:List Kd)).1.cells.toArray,.bool (opKd ⟨op,⟨kd,nu,st⟩,nm,ar⟩ ([⟨xk,xn⟩,⟨yk,yn⟩]:List Kd)).2]:=⟨_,rfl⟩
 rw[<-hR]
 have HR:=hide hR
 clear hR
 rcases hop with rfl|rfl|rfl|rfl|rfl
 all_goals (
  go_enter Tryz.func173,Tryz.ntmps173
  go_wp2_with (go_at_call 208;refine (containsFunc_kd _ _ _ _ _ (hx.below below_alloc2)).mono ?_;rintro e w0 ⟨rfl,hb0⟩;have hacc:=below_trans below_alloc2 hb0;have hx2:=hb0;obtain ⟨hc0,hf0⟩:=bcell hb0;have HS:=hide (made_two (bat (b:=w.heap.size+1) (o:=0) (v:=.int .i64 0) hx2 (by simp) (by simp[go_sem])) (bat (b:=w.heap.size+1) (o:=1) (v:=.bool false) hx2 (by simp) (by simp[go_sem])));have xa:=bat hacc hB x0;have xb:=bat hacc hB x1;have ya:=bat hacc hB y0;have yb:=bat hacc hB y1;clear hb0)
  have hB0:=Nat.lt_of_lt_of_le hB hacc.size
  go_region_held3 (λV=>V.cell? ⟨b,off,none⟩=some (.int .i64 xk)/\V.cell? ⟨b,off+1,none⟩=some (.bool xn)/\V.cell? ⟨b,off+2,none⟩=some (.int .i64 yk)/\V.cell? ⟨b,off+2+1,none⟩=some (.bool yn)) (first|exact ⟨xa,xb,ya,yb⟩|(have hq:=below_undrew hb1;exact ⟨bat hq hB0 xa,bat hq hB0 xb,bat hq hB0 ya,bat hq hB0 yb⟩)) (first|(go_at_call 211;refine (common_any _ _ _ _ _).mono ?_;rintro e w1 ⟨rfl,hb1⟩))
  have hq:=below_undrew hb1
  have hacc:=below_trans hacc hq
  have hx2:=below_trans hx2 hq
  clear hq hb1
  obtain ⟨hc1,hf1⟩:=bcell hx2
  have HS:=hide (made_two (bat (b:=w.heap.size+1) (o:=0) (v:=.int .i64 0) hx2 (by simp) (by simp[go_sem])) (bat (b:=w.heap.size+1) (o:=1) (v:=.bool false) hx2 (by simp) (by simp[go_sem])))
  have xa:=bat hacc hB x0
  have xb:=bat hacc hB x1
  have ya:=bat hacc hB y0
  have yb:=bat hacc hB y1
  go_wp2
  all_goals
   refine bodyPost_ret (v:=R) ?_ rfl ?_
   ·obtain ⟨S0,S1⟩:=HS.out
    rw[HR.out]
    simp[results,Tryz.results173,go_sem,S0,S1]
    go_light
    (try simp_all[opKd,unKd,binKd,Kd.cells])
   ·refine ⟨rfl,?_⟩
    first|exact hacc|exact (hacc.setCell (by simp) _).setCell (by simp) _)
theorem typed_17_ff (kd nu ar:Int)(st nm:ByteArray)(w:World)(b off:Nat)(c:Nat)(x:Kd)(yk:Int)(zk:Int)(zn:Bool)(hco:(common ⟨yk,false⟩ ⟨zk,zn⟩).2=false)(hx:In w (some ⟨b,off,none⟩) 3 c ([x,⟨yk,false⟩,⟨zk,zn⟩]:List Kd)):
  Calls Tryz.prog 173 #[.agg (ncells 17 kd nu st nm ar),.slice (some ⟨b,off,none⟩) 3 c] w λe w'=>e=.returned (.tuple #[.agg (opKd ⟨17,⟨kd,nu,st⟩,nm,ar⟩ ([x,⟨yk,false⟩,⟨zk,zn⟩]:List Kd)).1.cells.toArray,.bool (opKd ⟨17,⟨kd,nu,st⟩,nm,ar⟩ ([x,⟨yk,false⟩,⟨zk,zn⟩]:List Kd)).2])/\Below w.heap.size w w':=by
 obtain ⟨hB,x0,x1⟩:=kd_cells hx (show 0<3 by omega) (x:=x) rfl
 obtain ⟨xk,xn⟩:=x
 obtain ⟨hB,y0,y1⟩:=kd_cells hx (show 1<3 by omega) (x:=⟨yk,false⟩) rfl
 obtain ⟨hB,z0,z1⟩:=kd_cells hx (show 2<3 by omega) (x:=⟨zk,zn⟩) rfl
 simp only[Nat.zero_mul,Nat.one_mul,Nat.add_zero,Nat.reduceMul]at x0 x1 y0 y1 z0 z1
 simp only[ncells]
 go_enter Tryz.func173,Tryz.ntmps173
 go_wp2_with (go_at_call 208;refine (containsFunc_kd _ _ _ _ _ (hx.below below_alloc2)).mono ?_;rintro e w0 ⟨rfl,hb0⟩;have hacc:=below_trans below_alloc2 hb0;have hx2:=hb0;obtain ⟨hc0,hf0⟩:=bcell hb0;have HS:=hide (made_two (bat (b:=w.heap.size+1) (o:=0) (v:=.int .i64 0) hx2 (by simp) (by simp[go_sem])) (bat (b:=w.heap.size+1) (o:=1) (v:=.bool false) hx2 (by simp) (by simp[go_sem])));have xa:=bat hacc hB x0;have xb:=bat hacc hB x1;have ya:=bat hacc hB y0;have yb:=bat hacc hB y1;have za:=bat hacc hB z0;have zb:=bat hacc hB z1;clear hb0)
 have hB0:=Nat.lt_of_lt_of_le hB hacc.size
 go_region_held3 (λV=>V.cell? ⟨b,off+2,none⟩=some (.int .i64 yk)/\V.cell? ⟨b,off+2+1,none⟩=some (.bool false)/\V.cell? ⟨b,off+4,none⟩=some (.int .i64 zk)/\V.cell? ⟨b,off+4+1,none⟩=some (.bool zn)) (first|exact ⟨ya,yb,za,zb⟩|(have hq:=below_undrew hb1;exact ⟨bat hq hB0 ya,bat hq hB0 yb,bat hq hB0 za,bat hq hB0 zb⟩)) (first|(go_at_call 211;refine (common_any _ _ _ _ _).mono ?_;rintro e w1 ⟨rfl,hb1⟩))
 have hq:=below_undrew hb1
 have hacc:=below_trans hacc hq
 have hx2:=below_trans hx2 hq
 clear hq hb1
 obtain ⟨hc1,hf1⟩:=bcell hx2
 have HS:=hide (made_two (bat (b:=w.heap.size+1) (o:=0) (v:=.int .i64 0) hx2 (by simp) (by simp[go_sem])) (bat (b:=w.heap.size+1) (o:=1) (v:=.bool false) hx2 (by simp) (by simp[go_sem])))
 have xa:=bat hacc hB x0
 have xb:=bat hacc hB x1
 have ya:=bat hacc hB y0
 have yb:=bat hacc hB y1
 have za:=bat hacc hB z0
 have zb:=bat hacc hB z1
 have hB1:=Nat.lt_of_lt_of_le hB hacc.size
 have hne:¬b=w.heap.size+1:=by omega
 have hG:w.heap.size+1<w1.heap.size:=by have:=hx2.size;simp at this;omega
 have T0:=bat (b:=w.heap.size+1) (o:=0) (v:=.int .i64 0) hx2 (by simp) (by simp[go_sem])
 have T1:=bat (b:=w.heap.size+1) (o:=1) (v:=.bool false) hx2 (by simp) (by simp[go_sem])
 have F0:w1.frozen? ⟨w.heap.size+1,0,none⟩=false:=by rw[hf1 _ _ (by simp)];simp[go_sem]
 have F1:w1.frozen? ⟨w.heap.size+1,1,none⟩=false:=by rw[hf1 _ _ (by simp)];simp[go_sem]
 have HACC:=hide hacc
 clear hc0 hf0 hc1 hf1 hx2 hacc HS hB x0 x1 y0 y1 z0 z1 hx
 go_wp2
 go_region
 all_goals
  go_wp2
  refine bodyPost_ret (v:=.tuple #[.agg (opKd ⟨17,⟨kd,nu,st⟩,nm,ar⟩ ([⟨xk,xn⟩,⟨yk,false⟩,⟨zk,zn⟩]:List Kd)).1.cells.toArray,.bool (opKd ⟨17,⟨kd,nu,st⟩,nm,ar⟩ ([⟨xk,xn⟩,⟨yk,false⟩,⟨zk,zn⟩]:List Kd)).2]) ?_ rfl ?_
  ·obtain ⟨S0,S1⟩:=made_two T0 T1
   simp[results,Tryz.results173,go_sem,S0,S1]
   all_goals (simp[opKd,Kd.cells,hco])
  ·exact ⟨rfl,by exact (HACC.out.drew.setCell (by simp <;> omega) _).setCell (by simp <;> omega) _⟩
theorem typed_17_ft (kd nu ar:Int)(st nm:ByteArray)(w:World)(b off:Nat)(c:Nat)(x:Kd)(yk:Int)(zk:Int)(zn:Bool)(hco:(common ⟨yk,false⟩ ⟨zk,zn⟩).2=true)(hx:In w (some ⟨b,off,none⟩) 3 c ([x,⟨yk,false⟩,⟨zk,zn⟩]:List Kd)):
  Calls Tryz.prog 173 #[.agg (ncells 17 kd nu st nm ar),.slice (some ⟨b,off,none⟩) 3 c] w λe w'=>e=.returned (.tuple #[.agg (opKd ⟨17,⟨kd,nu,st⟩,nm,ar⟩ ([x,⟨yk,false⟩,⟨zk,zn⟩]:List Kd)).1.cells.toArray,.bool (opKd ⟨17,⟨kd,nu,st⟩,nm,ar⟩ ([x,⟨yk,false⟩,⟨zk,zn⟩]:List Kd)).2])/\Below w.heap.size w w':=by
 obtain ⟨hB,x0,x1⟩:=kd_cells hx (show 0<3 by omega) (x:=x) rfl
 obtain ⟨xk,xn⟩:=x
 obtain ⟨hB,y0,y1⟩:=kd_cells hx (show 1<3 by omega) (x:=⟨yk,false⟩) rfl
 obtain ⟨hB,z0,z1⟩:=kd_cells hx (show 2<3 by omega) (x:=⟨zk,zn⟩) rfl
 simp only[Nat.zero_mul,Nat.one_mul,Nat.add_zero,Nat.reduceMul]at x0 x1 y0 y1 z0 z1
 simp only[ncells]
 go_enter Tryz.func173,Tryz.ntmps173
 go_wp2_with (go_at_call 208;refine (containsFunc_kd _ _ _ _ _ (hx.below below_alloc2)).mono ?_;rintro e w0 ⟨rfl,hb0⟩;have hacc:=below_trans below_alloc2 hb0;have hx2:=hb0;obtain ⟨hc0,hf0⟩:=bcell hb0;have HS:=hide (made_two (bat (b:=w.heap.size+1) (o:=0) (v:=.int .i64 0) hx2 (by simp) (by simp[go_sem])) (bat (b:=w.heap.size+1) (o:=1) (v:=.bool false) hx2 (by simp) (by simp[go_sem])));have xa:=bat hacc hB x0;have xb:=bat hacc hB x1;have ya:=bat hacc hB y0;have yb:=bat hacc hB y1;have za:=bat hacc hB z0;have zb:=bat hacc hB z1;clear hb0)
 have hB0:=Nat.lt_of_lt_of_le hB hacc.size
 go_region_held3 (λV=>V.cell? ⟨b,off+2,none⟩=some (.int .i64 yk)/\V.cell? ⟨b,off+2+1,none⟩=some (.bool false)/\V.cell? ⟨b,off+4,none⟩=some (.int .i64 zk)/\V.cell? ⟨b,off+4+1,none⟩=some (.bool zn)) (first|exact ⟨ya,yb,za,zb⟩|(have hq:=below_undrew hb1;exact ⟨bat hq hB0 ya,bat hq hB0 yb,bat hq hB0 za,bat hq hB0 zb⟩)) (first|(go_at_call 211;refine (common_any _ _ _ _ _).mono ?_;rintro e w1 ⟨rfl,hb1⟩))
 have hq:=below_undrew hb1
 have hacc:=below_trans hacc hq
 have hx2:=below_trans hx2 hq
 clear hq hb1
 obtain ⟨hc1,hf1⟩:=bcell hx2
 have HS:=hide (made_two (bat (b:=w.heap.size+1) (o:=0) (v:=.int .i64 0) hx2 (by simp) (by simp[go_sem])) (bat (b:=w.heap.size+1) (o:=1) (v:=.bool false) hx2 (by simp) (by simp[go_sem])))
 have xa:=bat hacc hB x0
 have xb:=bat hacc hB x1
 have ya:=bat hacc hB y0
 have yb:=bat hacc hB y1
 have za:=bat hacc hB z0
 have zb:=bat hacc hB z1
 have hB1:=Nat.lt_of_lt_of_le hB hacc.size
 have hne:¬b=w.heap.size+1:=by omega
 have hG:w.heap.size+1<w1.heap.size:=by have:=hx2.size;simp at this;omega
 have T0:=bat (b:=w.heap.size+1) (o:=0) (v:=.int .i64 0) hx2 (by simp) (by simp[go_sem])
 have T1:=bat (b:=w.heap.size+1) (o:=1) (v:=.bool false) hx2 (by simp) (by simp[go_sem])
 have F0:w1.frozen? ⟨w.heap.size+1,0,none⟩=false:=by rw[hf1 _ _ (by simp)];simp[go_sem]
 have F1:w1.frozen? ⟨w.heap.size+1,1,none⟩=false:=by rw[hf1 _ _ (by simp)];simp[go_sem]
 have HACC:=hide hacc
 clear hc0 hf0 hc1 hf1 hx2 hacc HS hB x0 x1 y0 y1 z0 z1 hx
 go_wp2
 first|(go_region_held3 (λV=>V.cell? ⟨b,off,none⟩=some (.int .i64 xk)/\V.cell? ⟨b,off+1,none⟩=some (.bool xn)/\V.cell? ⟨b,off+2+1,none⟩=some (.bool false)/\V.cell? ⟨b,off+4+1,none⟩=some (.bool zn)) (first|exact ⟨xa,xb,yb,zb⟩|exact ⟨xa',xb',yb',zb'⟩|exact ⟨set_far (set_far xa (.inl hne)) (.inl hne),set_far (set_far xb (.inl hne)) (.inl hne),set_far (set_far yb (.inl hne)) (.inl hne),set_far (set_far zb (.inl hne)) (.inl hne)⟩|exact ⟨set_far (set_far xa' (.inl hne)) (.inl hne),set_far (set_far xb' (.inl hne)) (.inl hne),set_far (set_far yb' (.inl hne)) (.inl hne),set_far (set_far zb' (.inl hne)) (.inl hne)⟩) (first|(go_at_call 210;refine (fits_any _ _ _ _).mono ?_;rintro e w2 ⟨rfl,hb2⟩;have hq:=below_undrew hb2;have xa':=bat hq hB1 xa;have xb':=bat hq hB1 xb;have yb':=bat hq hB1 yb;have zb':=bat hq hB1 zb;have T0':=bat hq hG T0;have T1':=bat hq hG T1;have F0':=((bcell hq).2 _ _ hG).trans F0;have F1':=((bcell hq).2 _ _ hG).trans F1;clear hb2)))|fail
 all_goals
  go_wp2
  refine bodyPost_ret (v:=.tuple #[.agg (opKd ⟨17,⟨kd,nu,st⟩,nm,ar⟩ ([⟨xk,xn⟩,⟨yk,false⟩,⟨zk,zn⟩]:List Kd)).1.cells.toArray,.bool (opKd ⟨17,⟨kd,nu,st⟩,nm,ar⟩ ([⟨xk,xn⟩,⟨yk,false⟩,⟨zk,zn⟩]:List Kd)).2]) ?_ rfl ?_
  ·first|(obtain ⟨S0,S1⟩:=made_two T0' T1';simp[results,Tryz.results173,go_sem,S0,S1])|(obtain ⟨S0,S1⟩:=made_two T0 T1;simp[results,Tryz.results173,go_sem,S0,S1];done)|(obtain ⟨S0,S1⟩:=made_two T0 T1;simp[results,Tryz.results173,go_sem,S0,S1];(simp[opKd,Kd.cells,hco];done))|(obtain ⟨S0,S1⟩:=made_two (w:=w1.drew) (u0:=.int .i64 0) (u1:=.bool false) (by simpa using T0) (by simpa using T1);simp[results,Tryz.results173,go_sem,S0,S1])
   all_goals (simp[opKd,Kd.cells,hco])
  ·exact ⟨rfl,by first|exact ((below_trans HACC.out hq).setCell (by simp <;> omega) _).setCell (by simp <;> omega) _|exact (HACC.out.drew.setCell (by simp <;> omega) _).setCell (by simp <;> omega) _⟩
theorem typed_17_tf (kd nu ar:Int)(st nm:ByteArray)(w:World)(b off:Nat)(c:Nat)(x:Kd)(yk:Int)(zk:Int)(zn:Bool)(hco:(common ⟨yk,true⟩ ⟨zk,zn⟩).2=false)(hx:In w (some ⟨b,off,none⟩) 3 c ([x,⟨yk,true⟩,⟨zk,zn⟩]:List Kd)):
  Calls Tryz.prog 173 #[.agg (ncells 17 kd nu st nm ar),.slice (some ⟨b,off,none⟩) 3 c] w λe w'=>e=.returned (.tuple #[.agg (opKd ⟨17,⟨kd,nu,st⟩,nm,ar⟩ ([x,⟨yk,true⟩,⟨zk,zn⟩]:List Kd)).1.cells.toArray,.bool (opKd ⟨17,⟨kd,nu,st⟩,nm,ar⟩ ([x,⟨yk,true⟩,⟨zk,zn⟩]:List Kd)).2])/\Below w.heap.size w w':=by
 obtain ⟨hB,x0,x1⟩:=kd_cells hx (show 0<3 by omega) (x:=x) rfl
 obtain ⟨xk,xn⟩:=x
 obtain ⟨hB,y0,y1⟩:=kd_cells hx (show 1<3 by omega) (x:=⟨yk,true⟩) rfl
 obtain ⟨hB,z0,z1⟩:=kd_cells hx (show 2<3 by omega) (x:=⟨zk,zn⟩) rfl
 simp only[Nat.zero_mul,Nat.one_mul,Nat.add_zero,Nat.reduceMul]at x0 x1 y0 y1 z0 z1
 simp only[ncells]
 go_enter Tryz.func173,Tryz.ntmps173
 go_wp2_with (go_at_call 208;refine (containsFunc_kd _ _ _ _ _ (hx.below below_alloc2)).mono ?_;rintro e w0 ⟨rfl,hb0⟩;have hacc:=below_trans below_alloc2 hb0;have hx2:=hb0;obtain ⟨hc0,hf0⟩:=bcell hb0;have HS:=hide (made_two (bat (b:=w.heap.size+1) (o:=0) (v:=.int .i64 0) hx2 (by simp) (by simp[go_sem])) (bat (b:=w.heap.size+1) (o:=1) (v:=.bool false) hx2 (by simp) (by simp[go_sem])));have xa:=bat hacc hB x0;have xb:=bat hacc hB x1;have ya:=bat hacc hB y0;have yb:=bat hacc hB y1;have za:=bat hacc hB z0;have zb:=bat hacc hB z1;clear hb0)
 have hB0:=Nat.lt_of_lt_of_le hB hacc.size
 go_region_held3 (λV=>V.cell? ⟨b,off+2,none⟩=some (.int .i64 yk)/\V.cell? ⟨b,off+2+1,none⟩=some (.bool true)/\V.cell? ⟨b,off+4,none⟩=some (.int .i64 zk)/\V.cell? ⟨b,off+4+1,none⟩=some (.bool zn)) (first|exact ⟨ya,yb,za,zb⟩|(have hq:=below_undrew hb1;exact ⟨bat hq hB0 ya,bat hq hB0 yb,bat hq hB0 za,bat hq hB0 zb⟩)) (first|(go_at_call 211;refine (common_any _ _ _ _ _).mono ?_;rintro e w1 ⟨rfl,hb1⟩))
 have hq:=below_undrew hb1
 have hacc:=below_trans hacc hq
 have hx2:=below_trans hx2 hq
 clear hq hb1
 obtain ⟨hc1,hf1⟩:=bcell hx2
 have HS:=hide (made_two (bat (b:=w.heap.size+1) (o:=0) (v:=.int .i64 0) hx2 (by simp) (by simp[go_sem])) (bat (b:=w.heap.size+1) (o:=1) (v:=.bool false) hx2 (by simp) (by simp[go_sem])))
 have xa:=bat hacc hB x0
 have xb:=bat hacc hB x1
 have ya:=bat hacc hB y0
 have yb:=bat hacc hB y1
 have za:=bat hacc hB z0
 have zb:=bat hacc hB z1
 have hB1:=Nat.lt_of_lt_of_le hB hacc.size
 have hne:¬b=w.heap.size+1:=by omega
 have hG:w.heap.size+1<w1.heap.size:=by have:=hx2.size;simp at this;omega
 have T0:=bat (b:=w.heap.size+1) (o:=0) (v:=.int .i64 0) hx2 (by simp) (by simp[go_sem])
 have T1:=bat (b:=w.heap.size+1) (o:=1) (v:=.bool false) hx2 (by simp) (by simp[go_sem])
 have F0:w1.frozen? ⟨w.heap.size+1,0,none⟩=false:=by rw[hf1 _ _ (by simp)];simp[go_sem]
 have F1:w1.frozen? ⟨w.heap.size+1,1,none⟩=false:=by rw[hf1 _ _ (by simp)];simp[go_sem]
 have HACC:=hide hacc
 clear hc0 hf0 hc1 hf1 hx2 hacc HS hB x0 x1 y0 y1 z0 z1 hx
 go_wp2
 go_region
 all_goals
  go_wp2
  refine bodyPost_ret (v:=.tuple #[.agg (opKd ⟨17,⟨kd,nu,st⟩,nm,ar⟩ ([⟨xk,xn⟩,⟨yk,true⟩,⟨zk,zn⟩]:List Kd)).1.cells.toArray,.bool (opKd ⟨17,⟨kd,nu,st⟩,nm,ar⟩ ([⟨xk,xn⟩,⟨yk,true⟩,⟨zk,zn⟩]:List Kd)).2]) ?_ rfl ?_
  ·obtain ⟨S0,S1⟩:=made_two T0 T1
   simp[results,Tryz.results173,go_sem,S0,S1]
   all_goals (simp[opKd,Kd.cells,hco])
  ·exact ⟨rfl,by exact (HACC.out.drew.setCell (by simp <;> omega) _).setCell (by simp <;> omega) _⟩
theorem typed_17_tt (kd nu ar:Int)(st nm:ByteArray)(w:World)(b off:Nat)(c:Nat)(x:Kd)(yk:Int)(zk:Int)(zn:Bool)(hco:(common ⟨yk,true⟩ ⟨zk,zn⟩).2=true)(hx:In w (some ⟨b,off,none⟩) 3 c ([x,⟨yk,true⟩,⟨zk,zn⟩]:List Kd)):
  Calls Tryz.prog 173 #[.agg (ncells 17 kd nu st nm ar),.slice (some ⟨b,off,none⟩) 3 c] w λe w'=>e=.returned (.tuple #[.agg (opKd ⟨17,⟨kd,nu,st⟩,nm,ar⟩ ([x,⟨yk,true⟩,⟨zk,zn⟩]:List Kd)).1.cells.toArray,.bool (opKd ⟨17,⟨kd,nu,st⟩,nm,ar⟩ ([x,⟨yk,true⟩,⟨zk,zn⟩]:List Kd)).2])/\Below w.heap.size w w':=by
 obtain ⟨hB,x0,x1⟩:=kd_cells hx (show 0<3 by omega) (x:=x) rfl
 obtain ⟨xk,xn⟩:=x
 obtain ⟨hB,y0,y1⟩:=kd_cells hx (show 1<3 by omega) (x:=⟨yk,true⟩) rfl
 obtain ⟨hB,z0,z1⟩:=kd_cells hx (show 2<3 by omega) (x:=⟨zk,zn⟩) rfl
 simp only[Nat.zero_mul,Nat.one_mul,Nat.add_zero,Nat.reduceMul]at x0 x1 y0 y1 z0 z1
 simp only[ncells]
 go_enter Tryz.func173,Tryz.ntmps173
 go_wp2_with (go_at_call 208;refine (containsFunc_kd _ _ _ _ _ (hx.below below_alloc2)).mono ?_;rintro e w0 ⟨rfl,hb0⟩;have hacc:=below_trans below_alloc2 hb0;have hx2:=hb0;obtain ⟨hc0,hf0⟩:=bcell hb0;have HS:=hide (made_two (bat (b:=w.heap.size+1) (o:=0) (v:=.int .i64 0) hx2 (by simp) (by simp[go_sem])) (bat (b:=w.heap.size+1) (o:=1) (v:=.bool false) hx2 (by simp) (by simp[go_sem])));have xa:=bat hacc hB x0;have xb:=bat hacc hB x1;have ya:=bat hacc hB y0;have yb:=bat hacc hB y1;have za:=bat hacc hB z0;have zb:=bat hacc hB z1;clear hb0)
 have hB0:=Nat.lt_of_lt_of_le hB hacc.size
 go_region_held3 (λV=>V.cell? ⟨b,off+2,none⟩=some (.int .i64 yk)/\V.cell? ⟨b,off+2+1,none⟩=some (.bool true)/\V.cell? ⟨b,off+4,none⟩=some (.int .i64 zk)/\V.cell? ⟨b,off+4+1,none⟩=some (.bool zn)) (first|exact ⟨ya,yb,za,zb⟩|(have hq:=below_undrew hb1;exact ⟨bat hq hB0 ya,bat hq hB0 yb,bat hq hB0 za,bat hq hB0 zb⟩)) (first|(go_at_call 211;refine (common_any _ _ _ _ _).mono ?_;rintro e w1 ⟨rfl,hb1⟩))
 have hq:=below_undrew hb1
 have hacc:=below_trans hacc hq
 have hx2:=below_trans hx2 hq
 clear hq hb1
 obtain ⟨hc1,hf1⟩:=bcell hx2
 have HS:=hide (made_two (bat (b:=w.heap.size+1) (o:=0) (v:=.int .i64 0) hx2 (by simp) (by simp[go_sem])) (bat (b:=w.heap.size+1) (o:=1) (v:=.bool false) hx2 (by simp) (by simp[go_sem])))
 have xa:=bat hacc hB x0
 have xb:=bat hacc hB x1
 have ya:=bat hacc hB y0
 have yb:=bat hacc hB y1
 have za:=bat hacc hB z0
 have zb:=bat hacc hB z1
 have hB1:=Nat.lt_of_lt_of_le hB hacc.size
 have hne:¬b=w.heap.size+1:=by omega
 have hG:w.heap.size+1<w1.heap.size:=by have:=hx2.size;simp at this;omega
 have T0:=bat (b:=w.heap.size+1) (o:=0) (v:=.int .i64 0) hx2 (by simp) (by simp[go_sem])
 have T1:=bat (b:=w.heap.size+1) (o:=1) (v:=.bool false) hx2 (by simp) (by simp[go_sem])
 have F0:w1.frozen? ⟨w.heap.size+1,0,none⟩=false:=by rw[hf1 _ _ (by simp)];simp[go_sem]
 have F1:w1.frozen? ⟨w.heap.size+1,1,none⟩=false:=by rw[hf1 _ _ (by simp)];simp[go_sem]
 have HACC:=hide hacc
 clear hc0 hf0 hc1 hf1 hx2 hacc HS hB x0 x1 y0 y1 z0 z1 hx
 go_wp2
 first|(go_region_with (first|(go_at_call 210;refine (fits_any _ _ _ _).mono ?_;rintro e w2 ⟨rfl,hb2⟩;have hq:=below_undrew hb2;have xa':=bat hq hB1 xa;have xb':=bat hq hB1 xb;have yb':=bat hq hB1 yb;have zb':=bat hq hB1 zb;have T0':=bat hq hG T0;have T1':=bat hq hG T1;have F0':=((bcell hq).2 _ _ hG).trans F0;have F1':=((bcell hq).2 _ _ hG).trans F1;clear hb2)))|fail
 all_goals
  go_wp2
  refine bodyPost_ret (v:=.tuple #[.agg (opKd ⟨17,⟨kd,nu,st⟩,nm,ar⟩ ([⟨xk,xn⟩,⟨yk,true⟩,⟨zk,zn⟩]:List Kd)).1.cells.toArray,.bool (opKd ⟨17,⟨kd,nu,st⟩,nm,ar⟩ ([⟨xk,xn⟩,⟨yk,true⟩,⟨zk,zn⟩]:List Kd)).2]) ?_ rfl ?_
  ·first|(obtain ⟨S0,S1⟩:=made_two T0' T1';simp[results,Tryz.results173,go_sem,S0,S1])|(obtain ⟨S0,S1⟩:=made_two T0 T1;simp[results,Tryz.results173,go_sem,S0,S1];done)|(obtain ⟨S0,S1⟩:=made_two T0 T1;simp[results,Tryz.results173,go_sem,S0,S1];(simp[opKd,Kd.cells,hco];done))|(obtain ⟨S0,S1⟩:=made_two (w:=w1.drew) (u0:=.int .i64 0) (u1:=.bool false) (by simpa using T0) (by simpa using T1);simp[results,Tryz.results173,go_sem,S0,S1])
   all_goals (simp[opKd,Kd.cells,hco])
  ·exact ⟨rfl,by first|exact ((below_trans HACC.out hq).setCell (by simp <;> omega) _).setCell (by simp <;> omega) _|exact (HACC.out.drew.setCell (by simp <;> omega) _).setCell (by simp <;> omega) _⟩
theorem typed_17 (kd nu ar:Int)(st nm:ByteArray)(w:World)(b off:Nat)(c:Nat)(x y z:Kd)(hx:In w (some ⟨b,off,none⟩) 3 c ([x,y,z]:List Kd)):
  Calls Tryz.prog 173 #[.agg (ncells 17 kd nu st nm ar),.slice (some ⟨b,off,none⟩) 3 c] w λe w'=>e=.returned (.tuple #[.agg (opKd ⟨17,⟨kd,nu,st⟩,nm,ar⟩ ([x,y,z]:List Kd)).1.cells.toArray,.bool (opKd ⟨17,⟨kd,nu,st⟩,nm,ar⟩ ([x,y,z]:List Kd)).2])/\Below w.heap.size w w':=by
 obtain ⟨yk,yn⟩:=y
 obtain ⟨zk,zn⟩:=z
 cases yn
 ·cases hco:(common ⟨yk,false⟩ ⟨zk,zn⟩).2
  ·exact typed_17_ff kd nu ar st nm w b off c x yk zk zn hco hx
  ·exact typed_17_ft kd nu ar st nm w b off c x yk zk zn hco hx
 ·cases hco:(common ⟨yk,true⟩ ⟨zk,zn⟩).2
  ·exact typed_17_tf kd nu ar st nm w b off c x yk zk zn hco hx
  ·exact typed_17_tt kd nu ar st nm w b off c x yk zk zn hco hx
end Go.Proofs.YtggejcekmehocaaGreatDoor
