/-
  scalar.typed: it returns opKd, at OpIf. (Printed by gen_typed.py.)
-/
import Derived.Test.YtggejcekmehocaaGreatDoorGaq
namespace Go.Proofs.YtggejcekmehocaaGreatDoor
set_option maxHeartbeats 4000000
set_option maxRecDepth 100000
open Go.RowKit
set_option linter.unusedSimpArgs false
set_option linter.unusedVariables false
theorem Fe (kd nu ar:Int)(st nm:ByteArray)(w:World)(b off:Nat)(c:Nat)(x:Kd)(yk:Int)(zk:Int)(zn:Bool)(hco:(common ⟨yk,false⟩ ⟨zk,zn⟩).2=false)(hx:In w (some ⟨b,off,none⟩) 3 c ([x,⟨yk,false⟩,⟨zk,zn⟩]:List Kd)):
  Calls Tryz.prog 173 #[.agg (bS 17 kd nu st nm ar),.slice (some ⟨b,off,none⟩) 3 c] w λe w'=>e=.returned (.tuple #[.agg (aQ ⟨17,⟨kd,nu,st⟩,nm,ar⟩ ([x,⟨yk,false⟩,⟨zk,zn⟩]:List Kd)).1.cells.toArray,.bool (aQ ⟨17,⟨kd,nu,st⟩,nm,ar⟩ ([x,⟨yk,false⟩,⟨zk,zn⟩]:List Kd)).2])/\Below w.heap.size w w':=by
 obtain ⟨hB,x0,x1⟩:=bq hx (show 0<3 by omega) (x:=x) rfl
 obtain ⟨xk,xn⟩:=x
 obtain ⟨hB,y0,y1⟩:=bq hx (show 1<3 by omega) (x:=⟨yk,false⟩) rfl
 obtain ⟨hB,z0,z1⟩:=bq hx (show 2<3 by omega) (x:=⟨zk,zn⟩) rfl
 simp only[Nat.zero_mul,Nat.one_mul,Nat.add_zero,Nat.reduceMul]at x0 x1 y0 y1 z0 z1
 simp only[bS]
 go_enter Tryz.func173,Tryz.ntmps173
 go_wp2_with (go_at_call 208;refine (dJ _ _ _ _ _ (hx.below below_alloc2)).mono ?_;rintro e w0 ⟨rfl,hb0⟩;have hacc:=aa below_alloc2 hb0;have hx2:=hb0;obtain ⟨hc0,hf0⟩:=ai hb0;have HS:=hide (bE (ah (b:=w.heap.size+1) (o:=0) (v:=.int .i64 0) hx2 (by simp) (by simp[go_sem])) (ah (b:=w.heap.size+1) (o:=1) (v:=.bool false) hx2 (by simp) (by simp[go_sem])));have xa:=ah hacc hB x0;have xb:=ah hacc hB x1;have ya:=ah hacc hB y0;have yb:=ah hacc hB y1;have za:=ah hacc hB z0;have zb:=ah hacc hB z1;clear hb0)
 have hB0:=Nat.lt_of_lt_of_le hB hacc.size
 go_region_held3 (λV=>V.cell? ⟨b,off+2,none⟩=some (.int .i64 yk)/\V.cell? ⟨b,off+2+1,none⟩=some (.bool false)/\V.cell? ⟨b,off+4,none⟩=some (.int .i64 zk)/\V.cell? ⟨b,off+4+1,none⟩=some (.bool zn)) (first|exact ⟨ya,yb,za,zb⟩|(have hq:=ag hb1;exact ⟨ah hq hB0 ya,ah hq hB0 yb,ah hq hB0 za,ah hq hB0 zb⟩)) (first|(go_at_call 211;refine (mI _ _ _ _ _).mono ?_;rintro e w1 ⟨rfl,hb1⟩))
 have hq:=ag hb1
 have hacc:=aa hacc hq
 have hx2:=aa hx2 hq
 clear hq hb1
 obtain ⟨hc1,hf1⟩:=ai hx2
 have HS:=hide (bE (ah (b:=w.heap.size+1) (o:=0) (v:=.int .i64 0) hx2 (by simp) (by simp[go_sem])) (ah (b:=w.heap.size+1) (o:=1) (v:=.bool false) hx2 (by simp) (by simp[go_sem])))
 have xa:=ah hacc hB x0
 have xb:=ah hacc hB x1
 have ya:=ah hacc hB y0
 have yb:=ah hacc hB y1
 have za:=ah hacc hB z0
 have zb:=ah hacc hB z1
 have hB1:=Nat.lt_of_lt_of_le hB hacc.size
 have hne:¬b=w.heap.size+1:=by omega
 have hG:w.heap.size+1<w1.heap.size:=by have:=hx2.size;simp at this;omega
 have T0:=ah (b:=w.heap.size+1) (o:=0) (v:=.int .i64 0) hx2 (by simp) (by simp[go_sem])
 have T1:=ah (b:=w.heap.size+1) (o:=1) (v:=.bool false) hx2 (by simp) (by simp[go_sem])
 have F0:w1.frozen? ⟨w.heap.size+1,0,none⟩=false:=by rw[hf1 _ _ (by simp)];simp[go_sem]
 have F1:w1.frozen? ⟨w.heap.size+1,1,none⟩=false:=by rw[hf1 _ _ (by simp)];simp[go_sem]
 have BP:=hide hacc
 clear hc0 hf0 hc1 hf1 hx2 hacc HS hB x0 x1 y0 y1 z0 z1 hx
 go_wp2
 go_region
 all_goals
  go_wp2
  refine bodyPost_ret (v:=.tuple #[.agg (aQ ⟨17,⟨kd,nu,st⟩,nm,ar⟩ ([⟨xk,xn⟩,⟨yk,false⟩,⟨zk,zn⟩]:List Kd)).1.cells.toArray,.bool (aQ ⟨17,⟨kd,nu,st⟩,nm,ar⟩ ([⟨xk,xn⟩,⟨yk,false⟩,⟨zk,zn⟩]:List Kd)).2]) ?_ rfl ?_
  ·obtain ⟨S0,S1⟩:=bE T0 T1
   simp[results,Tryz.results173,go_sem,S0,S1]
   all_goals (simp[aQ,Kd.cells,hco])
  ·exact ⟨rfl,by exact (BP.out.drew.setCell (by simp <;> omega) _).setCell (by simp <;> omega) _⟩
theorem Ff (kd nu ar:Int)(st nm:ByteArray)(w:World)(b off:Nat)(c:Nat)(x:Kd)(yk:Int)(zk:Int)(zn:Bool)(hco:(common ⟨yk,false⟩ ⟨zk,zn⟩).2=true)(hx:In w (some ⟨b,off,none⟩) 3 c ([x,⟨yk,false⟩,⟨zk,zn⟩]:List Kd)):
  Calls Tryz.prog 173 #[.agg (bS 17 kd nu st nm ar),.slice (some ⟨b,off,none⟩) 3 c] w λe w'=>e=.returned (.tuple #[.agg (aQ ⟨17,⟨kd,nu,st⟩,nm,ar⟩ ([x,⟨yk,false⟩,⟨zk,zn⟩]:List Kd)).1.cells.toArray,.bool (aQ ⟨17,⟨kd,nu,st⟩,nm,ar⟩ ([x,⟨yk,false⟩,⟨zk,zn⟩]:List Kd)).2])/\Below w.heap.size w w':=by
 obtain ⟨hB,x0,x1⟩:=bq hx (show 0<3 by omega) (x:=x) rfl
 obtain ⟨xk,xn⟩:=x
 obtain ⟨hB,y0,y1⟩:=bq hx (show 1<3 by omega) (x:=⟨yk,false⟩) rfl
 obtain ⟨hB,z0,z1⟩:=bq hx (show 2<3 by omega) (x:=⟨zk,zn⟩) rfl
 simp only[Nat.zero_mul,Nat.one_mul,Nat.add_zero,Nat.reduceMul]at x0 x1 y0 y1 z0 z1
 simp only[bS]
 go_enter Tryz.func173,Tryz.ntmps173
 go_wp2_with (go_at_call 208;refine (dJ _ _ _ _ _ (hx.below below_alloc2)).mono ?_;rintro e w0 ⟨rfl,hb0⟩;have hacc:=aa below_alloc2 hb0;have hx2:=hb0;obtain ⟨hc0,hf0⟩:=ai hb0;have HS:=hide (bE (ah (b:=w.heap.size+1) (o:=0) (v:=.int .i64 0) hx2 (by simp) (by simp[go_sem])) (ah (b:=w.heap.size+1) (o:=1) (v:=.bool false) hx2 (by simp) (by simp[go_sem])));have xa:=ah hacc hB x0;have xb:=ah hacc hB x1;have ya:=ah hacc hB y0;have yb:=ah hacc hB y1;have za:=ah hacc hB z0;have zb:=ah hacc hB z1;clear hb0)
 have hB0:=Nat.lt_of_lt_of_le hB hacc.size
 go_region_held3 (λV=>V.cell? ⟨b,off+2,none⟩=some (.int .i64 yk)/\V.cell? ⟨b,off+2+1,none⟩=some (.bool false)/\V.cell? ⟨b,off+4,none⟩=some (.int .i64 zk)/\V.cell? ⟨b,off+4+1,none⟩=some (.bool zn)) (first|exact ⟨ya,yb,za,zb⟩|(have hq:=ag hb1;exact ⟨ah hq hB0 ya,ah hq hB0 yb,ah hq hB0 za,ah hq hB0 zb⟩)) (first|(go_at_call 211;refine (mI _ _ _ _ _).mono ?_;rintro e w1 ⟨rfl,hb1⟩))
 have hq:=ag hb1
 have hacc:=aa hacc hq
 have hx2:=aa hx2 hq
 clear hq hb1
 obtain ⟨hc1,hf1⟩:=ai hx2
 have HS:=hide (bE (ah (b:=w.heap.size+1) (o:=0) (v:=.int .i64 0) hx2 (by simp) (by simp[go_sem])) (ah (b:=w.heap.size+1) (o:=1) (v:=.bool false) hx2 (by simp) (by simp[go_sem])))
 have xa:=ah hacc hB x0
 have xb:=ah hacc hB x1
 have ya:=ah hacc hB y0
 have yb:=ah hacc hB y1
 have za:=ah hacc hB z0
 have zb:=ah hacc hB z1
 have hB1:=Nat.lt_of_lt_of_le hB hacc.size
 have hne:¬b=w.heap.size+1:=by omega
 have hG:w.heap.size+1<w1.heap.size:=by have:=hx2.size;simp at this;omega
 have T0:=ah (b:=w.heap.size+1) (o:=0) (v:=.int .i64 0) hx2 (by simp) (by simp[go_sem])
 have T1:=ah (b:=w.heap.size+1) (o:=1) (v:=.bool false) hx2 (by simp) (by simp[go_sem])
 have F0:w1.frozen? ⟨w.heap.size+1,0,none⟩=false:=by rw[hf1 _ _ (by simp)];simp[go_sem]
 have F1:w1.frozen? ⟨w.heap.size+1,1,none⟩=false:=by rw[hf1 _ _ (by simp)];simp[go_sem]
 have BP:=hide hacc
 clear hc0 hf0 hc1 hf1 hx2 hacc HS hB x0 x1 y0 y1 z0 z1 hx
 go_wp2
 first|(go_region_held3 (λV=>V.cell? ⟨b,off,none⟩=some (.int .i64 xk)/\V.cell? ⟨b,off+1,none⟩=some (.bool xn)/\V.cell? ⟨b,off+2+1,none⟩=some (.bool false)/\V.cell? ⟨b,off+4+1,none⟩=some (.bool zn)) (first|exact ⟨xa,xb,yb,zb⟩|exact ⟨xa',xb',yb',zb'⟩|exact ⟨ae (ae xa (.inl hne)) (.inl hne),ae (ae xb (.inl hne)) (.inl hne),ae (ae yb (.inl hne)) (.inl hne),ae (ae zb (.inl hne)) (.inl hne)⟩|exact ⟨ae (ae xa' (.inl hne)) (.inl hne),ae (ae xb' (.inl hne)) (.inl hne),ae (ae yb' (.inl hne)) (.inl hne),ae (ae zb' (.inl hne)) (.inl hne)⟩) (first|(go_at_call 210;refine (lF _ _ _ _).mono ?_;rintro e w2 ⟨rfl,hb2⟩;have hq:=ag hb2;have xa':=ah hq hB1 xa;have xb':=ah hq hB1 xb;have yb':=ah hq hB1 yb;have zb':=ah hq hB1 zb;have T0':=ah hq hG T0;have T1':=ah hq hG T1;have F0':=((ai hq).2 _ _ hG).trans F0;have F1':=((ai hq).2 _ _ hG).trans F1;clear hb2)))|fail
 all_goals
  go_wp2
  refine bodyPost_ret (v:=.tuple #[.agg (aQ ⟨17,⟨kd,nu,st⟩,nm,ar⟩ ([⟨xk,xn⟩,⟨yk,false⟩,⟨zk,zn⟩]:List Kd)).1.cells.toArray,.bool (aQ ⟨17,⟨kd,nu,st⟩,nm,ar⟩ ([⟨xk,xn⟩,⟨yk,false⟩,⟨zk,zn⟩]:List Kd)).2]) ?_ rfl ?_
  ·first|(obtain ⟨S0,S1⟩:=bE T0' T1';simp[results,Tryz.results173,go_sem,S0,S1])|(obtain ⟨S0,S1⟩:=bE T0 T1;simp[results,Tryz.results173,go_sem,S0,S1];done)|(obtain ⟨S0,S1⟩:=bE T0 T1;simp[results,Tryz.results173,go_sem,S0,S1];(simp[aQ,Kd.cells,hco];done))|(obtain ⟨S0,S1⟩:=bE (w:=w1.drew) (u0:=.int .i64 0) (u1:=.bool false) (by simpa using T0) (by simpa using T1);simp[results,Tryz.results173,go_sem,S0,S1])
   all_goals (simp[aQ,Kd.cells,hco])
  ·exact ⟨rfl,by first|exact ((aa BP.out hq).setCell (by simp <;> omega) _).setCell (by simp <;> omega) _|exact (BP.out.drew.setCell (by simp <;> omega) _).setCell (by simp <;> omega) _⟩
theorem Fg (kd nu ar:Int)(st nm:ByteArray)(w:World)(b off:Nat)(c:Nat)(x:Kd)(yk:Int)(zk:Int)(zn:Bool)(hco:(common ⟨yk,true⟩ ⟨zk,zn⟩).2=false)(hx:In w (some ⟨b,off,none⟩) 3 c ([x,⟨yk,true⟩,⟨zk,zn⟩]:List Kd)):
  Calls Tryz.prog 173 #[.agg (bS 17 kd nu st nm ar),.slice (some ⟨b,off,none⟩) 3 c] w λe w'=>e=.returned (.tuple #[.agg (aQ ⟨17,⟨kd,nu,st⟩,nm,ar⟩ ([x,⟨yk,true⟩,⟨zk,zn⟩]:List Kd)).1.cells.toArray,.bool (aQ ⟨17,⟨kd,nu,st⟩,nm,ar⟩ ([x,⟨yk,true⟩,⟨zk,zn⟩]:List Kd)).2])/\Below w.heap.size w w':=by
 obtain ⟨hB,x0,x1⟩:=bq hx (show 0<3 by omega) (x:=x) rfl
 obtain ⟨xk,xn⟩:=x
 obtain ⟨hB,y0,y1⟩:=bq hx (show 1<3 by omega) (x:=⟨yk,true⟩) rfl
 obtain ⟨hB,z0,z1⟩:=bq hx (show 2<3 by omega) (x:=⟨zk,zn⟩) rfl
 simp only[Nat.zero_mul,Nat.one_mul,Nat.add_zero,Nat.reduceMul]at x0 x1 y0 y1 z0 z1
 simp only[bS]
 go_enter Tryz.func173,Tryz.ntmps173
 go_wp2_with (go_at_call 208;refine (dJ _ _ _ _ _ (hx.below below_alloc2)).mono ?_;rintro e w0 ⟨rfl,hb0⟩;have hacc:=aa below_alloc2 hb0;have hx2:=hb0;obtain ⟨hc0,hf0⟩:=ai hb0;have HS:=hide (bE (ah (b:=w.heap.size+1) (o:=0) (v:=.int .i64 0) hx2 (by simp) (by simp[go_sem])) (ah (b:=w.heap.size+1) (o:=1) (v:=.bool false) hx2 (by simp) (by simp[go_sem])));have xa:=ah hacc hB x0;have xb:=ah hacc hB x1;have ya:=ah hacc hB y0;have yb:=ah hacc hB y1;have za:=ah hacc hB z0;have zb:=ah hacc hB z1;clear hb0)
 have hB0:=Nat.lt_of_lt_of_le hB hacc.size
 go_region_held3 (λV=>V.cell? ⟨b,off+2,none⟩=some (.int .i64 yk)/\V.cell? ⟨b,off+2+1,none⟩=some (.bool true)/\V.cell? ⟨b,off+4,none⟩=some (.int .i64 zk)/\V.cell? ⟨b,off+4+1,none⟩=some (.bool zn)) (first|exact ⟨ya,yb,za,zb⟩|(have hq:=ag hb1;exact ⟨ah hq hB0 ya,ah hq hB0 yb,ah hq hB0 za,ah hq hB0 zb⟩)) (first|(go_at_call 211;refine (mI _ _ _ _ _).mono ?_;rintro e w1 ⟨rfl,hb1⟩))
 have hq:=ag hb1
 have hacc:=aa hacc hq
 have hx2:=aa hx2 hq
 clear hq hb1
 obtain ⟨hc1,hf1⟩:=ai hx2
 have HS:=hide (bE (ah (b:=w.heap.size+1) (o:=0) (v:=.int .i64 0) hx2 (by simp) (by simp[go_sem])) (ah (b:=w.heap.size+1) (o:=1) (v:=.bool false) hx2 (by simp) (by simp[go_sem])))
 have xa:=ah hacc hB x0
 have xb:=ah hacc hB x1
 have ya:=ah hacc hB y0
 have yb:=ah hacc hB y1
 have za:=ah hacc hB z0
 have zb:=ah hacc hB z1
 have hB1:=Nat.lt_of_lt_of_le hB hacc.size
 have hne:¬b=w.heap.size+1:=by omega
 have hG:w.heap.size+1<w1.heap.size:=by have:=hx2.size;simp at this;omega
 have T0:=ah (b:=w.heap.size+1) (o:=0) (v:=.int .i64 0) hx2 (by simp) (by simp[go_sem])
 have T1:=ah (b:=w.heap.size+1) (o:=1) (v:=.bool false) hx2 (by simp) (by simp[go_sem])
 have F0:w1.frozen? ⟨w.heap.size+1,0,none⟩=false:=by rw[hf1 _ _ (by simp)];simp[go_sem]
 have F1:w1.frozen? ⟨w.heap.size+1,1,none⟩=false:=by rw[hf1 _ _ (by simp)];simp[go_sem]
 have BP:=hide hacc
 clear hc0 hf0 hc1 hf1 hx2 hacc HS hB x0 x1 y0 y1 z0 z1 hx
 go_wp2
 go_region
 all_goals
  go_wp2
  refine bodyPost_ret (v:=.tuple #[.agg (aQ ⟨17,⟨kd,nu,st⟩,nm,ar⟩ ([⟨xk,xn⟩,⟨yk,true⟩,⟨zk,zn⟩]:List Kd)).1.cells.toArray,.bool (aQ ⟨17,⟨kd,nu,st⟩,nm,ar⟩ ([⟨xk,xn⟩,⟨yk,true⟩,⟨zk,zn⟩]:List Kd)).2]) ?_ rfl ?_
  ·obtain ⟨S0,S1⟩:=bE T0 T1
   simp[results,Tryz.results173,go_sem,S0,S1]
   all_goals (simp[aQ,Kd.cells,hco])
  ·exact ⟨rfl,by exact (BP.out.drew.setCell (by simp <;> omega) _).setCell (by simp <;> omega) _⟩
theorem Fh (kd nu ar:Int)(st nm:ByteArray)(w:World)(b off:Nat)(c:Nat)(x:Kd)(yk:Int)(zk:Int)(zn:Bool)(hco:(common ⟨yk,true⟩ ⟨zk,zn⟩).2=true)(hx:In w (some ⟨b,off,none⟩) 3 c ([x,⟨yk,true⟩,⟨zk,zn⟩]:List Kd)):
  Calls Tryz.prog 173 #[.agg (bS 17 kd nu st nm ar),.slice (some ⟨b,off,none⟩) 3 c] w λe w'=>e=.returned (.tuple #[.agg (aQ ⟨17,⟨kd,nu,st⟩,nm,ar⟩ ([x,⟨yk,true⟩,⟨zk,zn⟩]:List Kd)).1.cells.toArray,.bool (aQ ⟨17,⟨kd,nu,st⟩,nm,ar⟩ ([x,⟨yk,true⟩,⟨zk,zn⟩]:List Kd)).2])/\Below w.heap.size w w':=by
 obtain ⟨hB,x0,x1⟩:=bq hx (show 0<3 by omega) (x:=x) rfl
 obtain ⟨xk,xn⟩:=x
 obtain ⟨hB,y0,y1⟩:=bq hx (show 1<3 by omega) (x:=⟨yk,true⟩) rfl
 obtain ⟨hB,z0,z1⟩:=bq hx (show 2<3 by omega) (x:=⟨zk,zn⟩) rfl
 simp only[Nat.zero_mul,Nat.one_mul,Nat.add_zero,Nat.reduceMul]at x0 x1 y0 y1 z0 z1
 simp only[bS]
 go_enter Tryz.func173,Tryz.ntmps173
 go_wp2_with (go_at_call 208;refine (dJ _ _ _ _ _ (hx.below below_alloc2)).mono ?_;rintro e w0 ⟨rfl,hb0⟩;have hacc:=aa below_alloc2 hb0;have hx2:=hb0;obtain ⟨hc0,hf0⟩:=ai hb0;have HS:=hide (bE (ah (b:=w.heap.size+1) (o:=0) (v:=.int .i64 0) hx2 (by simp) (by simp[go_sem])) (ah (b:=w.heap.size+1) (o:=1) (v:=.bool false) hx2 (by simp) (by simp[go_sem])));have xa:=ah hacc hB x0;have xb:=ah hacc hB x1;have ya:=ah hacc hB y0;have yb:=ah hacc hB y1;have za:=ah hacc hB z0;have zb:=ah hacc hB z1;clear hb0)
 have hB0:=Nat.lt_of_lt_of_le hB hacc.size
 go_region_held3 (λV=>V.cell? ⟨b,off+2,none⟩=some (.int .i64 yk)/\V.cell? ⟨b,off+2+1,none⟩=some (.bool true)/\V.cell? ⟨b,off+4,none⟩=some (.int .i64 zk)/\V.cell? ⟨b,off+4+1,none⟩=some (.bool zn)) (first|exact ⟨ya,yb,za,zb⟩|(have hq:=ag hb1;exact ⟨ah hq hB0 ya,ah hq hB0 yb,ah hq hB0 za,ah hq hB0 zb⟩)) (first|(go_at_call 211;refine (mI _ _ _ _ _).mono ?_;rintro e w1 ⟨rfl,hb1⟩))
 have hq:=ag hb1
 have hacc:=aa hacc hq
 have hx2:=aa hx2 hq
 clear hq hb1
 obtain ⟨hc1,hf1⟩:=ai hx2
 have HS:=hide (bE (ah (b:=w.heap.size+1) (o:=0) (v:=.int .i64 0) hx2 (by simp) (by simp[go_sem])) (ah (b:=w.heap.size+1) (o:=1) (v:=.bool false) hx2 (by simp) (by simp[go_sem])))
 have xa:=ah hacc hB x0
 have xb:=ah hacc hB x1
 have ya:=ah hacc hB y0
 have yb:=ah hacc hB y1
 have za:=ah hacc hB z0
 have zb:=ah hacc hB z1
 have hB1:=Nat.lt_of_lt_of_le hB hacc.size
 have hne:¬b=w.heap.size+1:=by omega
 have hG:w.heap.size+1<w1.heap.size:=by have:=hx2.size;simp at this;omega
 have T0:=ah (b:=w.heap.size+1) (o:=0) (v:=.int .i64 0) hx2 (by simp) (by simp[go_sem])
 have T1:=ah (b:=w.heap.size+1) (o:=1) (v:=.bool false) hx2 (by simp) (by simp[go_sem])
 have F0:w1.frozen? ⟨w.heap.size+1,0,none⟩=false:=by rw[hf1 _ _ (by simp)];simp[go_sem]
 have F1:w1.frozen? ⟨w.heap.size+1,1,none⟩=false:=by rw[hf1 _ _ (by simp)];simp[go_sem]
 have BP:=hide hacc
 clear hc0 hf0 hc1 hf1 hx2 hacc HS hB x0 x1 y0 y1 z0 z1 hx
 go_wp2
 first|(go_region_with (first|(go_at_call 210;refine (lF _ _ _ _).mono ?_;rintro e w2 ⟨rfl,hb2⟩;have hq:=ag hb2;have xa':=ah hq hB1 xa;have xb':=ah hq hB1 xb;have yb':=ah hq hB1 yb;have zb':=ah hq hB1 zb;have T0':=ah hq hG T0;have T1':=ah hq hG T1;have F0':=((ai hq).2 _ _ hG).trans F0;have F1':=((ai hq).2 _ _ hG).trans F1;clear hb2)))|fail
 all_goals
  go_wp2
  refine bodyPost_ret (v:=.tuple #[.agg (aQ ⟨17,⟨kd,nu,st⟩,nm,ar⟩ ([⟨xk,xn⟩,⟨yk,true⟩,⟨zk,zn⟩]:List Kd)).1.cells.toArray,.bool (aQ ⟨17,⟨kd,nu,st⟩,nm,ar⟩ ([⟨xk,xn⟩,⟨yk,true⟩,⟨zk,zn⟩]:List Kd)).2]) ?_ rfl ?_
  ·first|(obtain ⟨S0,S1⟩:=bE T0' T1';simp[results,Tryz.results173,go_sem,S0,S1])|(obtain ⟨S0,S1⟩:=bE T0 T1;simp[results,Tryz.results173,go_sem,S0,S1];done)|(obtain ⟨S0,S1⟩:=bE T0 T1;simp[results,Tryz.results173,go_sem,S0,S1];(simp[aQ,Kd.cells,hco];done))|(obtain ⟨S0,S1⟩:=bE (w:=w1.drew) (u0:=.int .i64 0) (u1:=.bool false) (by simpa using T0) (by simpa using T1);simp[results,Tryz.results173,go_sem,S0,S1])
   all_goals (simp[aQ,Kd.cells,hco])
  ·exact ⟨rfl,by first|exact ((aa BP.out hq).setCell (by simp <;> omega) _).setCell (by simp <;> omega) _|exact (BP.out.drew.setCell (by simp <;> omega) _).setCell (by simp <;> omega) _⟩
theorem M5 (kd nu ar:Int)(st nm:ByteArray)(w:World)(b off:Nat)(c:Nat)(x y z:Kd)(hx:In w (some ⟨b,off,none⟩) 3 c ([x,y,z]:List Kd)):
  Calls Tryz.prog 173 #[.agg (bS 17 kd nu st nm ar),.slice (some ⟨b,off,none⟩) 3 c] w λe w'=>e=.returned (.tuple #[.agg (aQ ⟨17,⟨kd,nu,st⟩,nm,ar⟩ ([x,y,z]:List Kd)).1.cells.toArray,.bool (aQ ⟨17,⟨kd,nu,st⟩,nm,ar⟩ ([x,y,z]:List Kd)).2])/\Below w.heap.size w w':=by
 obtain ⟨yk,yn⟩:=y
 obtain ⟨zk,zn⟩:=z
 cases yn
 ·cases hco:(common ⟨yk,false⟩ ⟨zk,zn⟩).2
  ·exact Fe kd nu ar st nm w b off c x yk zk zn hco hx
  ·exact Ff kd nu ar st nm w b off c x yk zk zn hco hx
 ·cases hco:(common ⟨yk,true⟩ ⟨zk,zn⟩).2
  ·exact Fg kd nu ar st nm w b off c x yk zk zn hco hx
  ·exact Fh kd nu ar st nm w b off c x yk zk zn hco hx
end Go.Proofs.YtggejcekmehocaaGreatDoor
