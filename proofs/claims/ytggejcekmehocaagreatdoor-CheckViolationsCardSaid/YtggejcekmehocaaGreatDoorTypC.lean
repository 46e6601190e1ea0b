/-
  warehouseref9.unary, difference and binary: they return unKd and binKd. (Printed by gen_ref9.py.)
-/
import Derived.Test.YtggejcekmehocaaGreatDoorGam
import Derived.Test.YtggejcekmehocaaGreatDoorGak
namespace Go.Proofs.YtggejcekmehocaaGreatDoor
set_option maxHeartbeats 4000000
set_option maxRecDepth 100000
open Go.RowKit
set_option linter.unusedSimpArgs false
set_option linter.unusedVariables false
theorem dA {w:World}{g:Nat}{u0 u1:Value}(h0:w.cell? ⟨g,0,none⟩=some u0)(h1:w.cell? ⟨g,1,none⟩=some u1):
  (∀a,(w.setCell ⟨g,0,none⟩ a).cell? ⟨g,0,none⟩=some a)/\(∀a b,((w.setCell ⟨g,0,none⟩ a).setCell ⟨g,1,none⟩ b).cell? ⟨g,1,none⟩=some b):=
 ⟨λa=>bU h0,λa b=>bU (ae h1 (.inr (by omega)))⟩
theorem Ps (xk:Int)(xn:Bool)(w:World):
  Calls Tryz.prog 188 #[.int .i64 2,.agg #[.int .i64 xk,.bool xn]] w λe w'=>e=.returned (.tuple #[.agg (ek 2 ⟨xk,xn⟩).1.cells.toArray,.bool (ek 2 ⟨xk,xn⟩).2])/\Below w.heap.size w w':=by
 go_enter Tryz.func188,Tryz.ntmps188
 go_wp2
 go_region_held3 (λV=>V.cell? ⟨w.heap.size,0,none⟩=some (.int .i64 xk)/\V.cell? ⟨w.heap.size,1,none⟩=some (.bool xn)) (first|exact ⟨c0,c1⟩|go_keep) (first|(go_at_call 186;refine (eD _ _ _ _).mono ?_;rintro e w1 ⟨rfl,hb1⟩;have c0:=(ai hb1).1 w.heap.size 0 (by simp;omega);have c1:=(ai hb1).1 w.heap.size 1 (by simp;omega);have d0:=(ai hb1).1 (w.heap.size+1) 0 (by simp);have d1:=(ai hb1).1 (w.heap.size+1) 1 (by simp);have F0:=(ai hb1).2 (w.heap.size+1) 0 (by simp);have F1:=(ai hb1).2 (w.heap.size+1) 1 (by simp);simp[go_sem]at c0 c1 d0 d1 F0 F1;have HB:Hid (Below w.heap.size w w1):=hide (by first|exact aa (below_alloc2.drew) hb1|exact aa ((below_alloc2.drew.setCell (by simp) _).setCell (by simp) _) hb1);have HS:=hide (dA d0 d1);clear hb1))
 all_goals
  go_wp2
  refine bodyPost_ret (v:=.tuple #[.agg (ek 2 ⟨xk,xn⟩).1.cells.toArray,.bool (ek 2 ⟨xk,xn⟩).2]) ?_ rfl ⟨rfl,by first|exact (HB.out.setCell (by simp) _).setCell (by simp) _|exact HB.out⟩
  obtain ⟨S0,S1⟩:=HS.out
  simp[results,Tryz.results188,go_sem,S0,S1,ek,Kd.cells]
theorem Pt (xk:Int)(xn:Bool)(w:World):
  Calls Tryz.prog 188 #[.int .i64 3,.agg #[.int .i64 xk,.bool xn]] w λe w'=>e=.returned (.tuple #[.agg (ek 3 ⟨xk,xn⟩).1.cells.toArray,.bool (ek 3 ⟨xk,xn⟩).2])/\Below w.heap.size w w':=by
 go_enter Tryz.func188,Tryz.ntmps188
 go_wp2
 go_region_held3 (λV=>V.cell? ⟨w.heap.size,0,none⟩=some (.int .i64 xk)/\V.cell? ⟨w.heap.size,1,none⟩=some (.bool xn)) (first|exact ⟨c0,c1⟩|go_keep) (first|(go_at_call 186;refine (eD _ _ _ _).mono ?_;rintro e w1 ⟨rfl,hb1⟩;have c0:=(ai hb1).1 w.heap.size 0 (by simp;omega);have c1:=(ai hb1).1 w.heap.size 1 (by simp;omega);have d0:=(ai hb1).1 (w.heap.size+1) 0 (by simp);have d1:=(ai hb1).1 (w.heap.size+1) 1 (by simp);have F0:=(ai hb1).2 (w.heap.size+1) 0 (by simp);have F1:=(ai hb1).2 (w.heap.size+1) 1 (by simp);simp[go_sem]at c0 c1 d0 d1 F0 F1;have HB:Hid (Below w.heap.size w w1):=hide (by first|exact aa (below_alloc2.drew) hb1|exact aa ((below_alloc2.drew.setCell (by simp) _).setCell (by simp) _) hb1);have HS:=hide (dA d0 d1);clear hb1))
 all_goals
  go_wp2
  refine bodyPost_ret (v:=.tuple #[.agg (ek 3 ⟨xk,xn⟩).1.cells.toArray,.bool (ek 3 ⟨xk,xn⟩).2]) ?_ rfl ⟨rfl,by first|exact (HB.out.setCell (by simp) _).setCell (by simp) _|exact HB.out⟩
  obtain ⟨S0,S1⟩:=HS.out
  simp[results,Tryz.results188,go_sem,S0,S1,ek,Kd.cells]
theorem M9 (xk:Int)(xn:Bool)(w:World):
  Calls Tryz.prog 188 #[.int .i64 16,.agg #[.int .i64 xk,.bool xn]] w λe w'=>e=.returned (.tuple #[.agg (ek 16 ⟨xk,xn⟩).1.cells.toArray,.bool (ek 16 ⟨xk,xn⟩).2])/\Below w.heap.size w w':=by
 go_enter Tryz.func188,Tryz.ntmps188
 go_wp2
 refine bodyPost_ret (v:=.tuple #[.agg (ek 16 ⟨xk,xn⟩).1.cells.toArray,.bool (ek 16 ⟨xk,xn⟩).2]) ?_ rfl ⟨rfl,by exact below_alloc2⟩
 simp[results,Tryz.results188,go_sem,ek,Kd.cells]
theorem Na (xk:Int)(xn:Bool)(w:World):
  Calls Tryz.prog 188 #[.int .i64 19,.agg #[.int .i64 xk,.bool xn]] w λe w'=>e=.returned (.tuple #[.agg (ek 19 ⟨xk,xn⟩).1.cells.toArray,.bool (ek 19 ⟨xk,xn⟩).2])/\Below w.heap.size w w':=by
 go_enter Tryz.func188,Tryz.ntmps188
 go_wp2
 go_region_held3 (λV=>V.cell? ⟨w.heap.size,0,none⟩=some (.int .i64 xk)/\V.cell? ⟨w.heap.size,1,none⟩=some (.bool xn)) (first|exact ⟨c0,c1⟩|go_keep) (first|(go_at_call 186;refine (eD _ _ _ _).mono ?_;rintro e w1 ⟨rfl,hb1⟩;have c0:=(ai hb1).1 w.heap.size 0 (by simp;omega);have c1:=(ai hb1).1 w.heap.size 1 (by simp;omega);have d0:=(ai hb1).1 (w.heap.size+1) 0 (by simp);have d1:=(ai hb1).1 (w.heap.size+1) 1 (by simp);have F0:=(ai hb1).2 (w.heap.size+1) 0 (by simp);have F1:=(ai hb1).2 (w.heap.size+1) 1 (by simp);simp[go_sem]at c0 c1 d0 d1 F0 F1;have HB:Hid (Below w.heap.size w w1):=hide (by first|exact aa (below_alloc2.drew) hb1|exact aa ((below_alloc2.drew.setCell (by simp) _).setCell (by simp) _) hb1);have HS:=hide (dA d0 d1);clear hb1))
 all_goals
  go_wp2
  refine bodyPost_ret (v:=.tuple #[.agg (ek 19 ⟨xk,xn⟩).1.cells.toArray,.bool (ek 19 ⟨xk,xn⟩).2]) ?_ rfl ⟨rfl,by first|exact (HB.out.setCell (by simp) _).setCell (by simp) _|exact HB.out⟩
  obtain ⟨S0,S1⟩:=HS.out
  simp[results,Tryz.results188,go_sem,S0,S1,ek,Kd.cells]
theorem Nb (xk:Int)(xn:Bool)(w:World):
  Calls Tryz.prog 188 #[.int .i64 20,.agg #[.int .i64 xk,.bool xn]] w λe w'=>e=.returned (.tuple #[.agg (ek 20 ⟨xk,xn⟩).1.cells.toArray,.bool (ek 20 ⟨xk,xn⟩).2])/\Below w.heap.size w w':=by
 go_enter Tryz.func188,Tryz.ntmps188
 go_wp2
 go_region_held3 (λV=>V.cell? ⟨w.heap.size,0,none⟩=some (.int .i64 xk)/\V.cell? ⟨w.heap.size,1,none⟩=some (.bool xn)) (first|exact ⟨c0,c1⟩|go_keep) (first|(go_at_call 186;refine (eD _ _ _ _).mono ?_;rintro e w1 ⟨rfl,hb1⟩;have c0:=(ai hb1).1 w.heap.size 0 (by simp;omega);have c1:=(ai hb1).1 w.heap.size 1 (by simp;omega);have d0:=(ai hb1).1 (w.heap.size+1) 0 (by simp);have d1:=(ai hb1).1 (w.heap.size+1) 1 (by simp);have F0:=(ai hb1).2 (w.heap.size+1) 0 (by simp);have F1:=(ai hb1).2 (w.heap.size+1) 1 (by simp);simp[go_sem]at c0 c1 d0 d1 F0 F1;have HB:Hid (Below w.heap.size w w1):=hide (by first|exact aa (below_alloc2.drew) hb1|exact aa ((below_alloc2.drew.setCell (by simp) _).setCell (by simp) _) hb1);have HS:=hide (dA d0 d1);clear hb1))
 all_goals
  go_wp2
  refine bodyPost_ret (v:=.tuple #[.agg (ek 20 ⟨xk,xn⟩).1.cells.toArray,.bool (ek 20 ⟨xk,xn⟩).2]) ?_ rfl ⟨rfl,by first|exact (HB.out.setCell (by simp) _).setCell (by simp) _|exact HB.out⟩
  obtain ⟨S0,S1⟩:=HS.out
  simp[results,Tryz.results188,go_sem,S0,S1,ek,Kd.cells]
theorem Ol (xn yn:Bool)(w:World):
  Calls Tryz.prog 229 #[.agg #[.int .i64 4,.bool xn],.agg #[.int .i64 4,.bool yn]] w λe w'=>e=.returned (.tuple #[.agg ((⟨2,xn || yn⟩,true):Kd×Bool).1.cells.toArray,.bool ((⟨2,xn || yn⟩,true):Kd×Bool).2])/\Below w.heap.size w w':=by
 have hx2:=Below.refl (((w.alloc (.cells #[.int .i64 4,.bool xn] 173)).alloc (.cells #[.int .i64 4,.bool yn] 173)).alloc (.cells #[.int .i64 0,.bool false] 173)).heap.size (((w.alloc (.cells #[.int .i64 4,.bool xn] 173)).alloc (.cells #[.int .i64 4,.bool yn] 173)).alloc (.cells #[.int .i64 0,.bool false] 173))
 obtain ⟨R,hR⟩: ∃R:Value,R=.tuple #[.agg ((⟨2,xn || yn⟩,true):Kd×Bool).1.cells.toArray,.bool ((⟨2,xn || yn⟩,true):Kd×Bool).2]:=⟨_,rfl⟩
 rw[<-hR]
 have HR:=hide hR
 clear hR
 cases xn <;> cases yn
 all_goals (
  go_enter Tryz.func229,Tryz.ntmps229
  go_wp2_with (first|(go_at_call 186;refine (eD _ _ _ _).mono ?_;rintro e w1 ⟨rfl,hb1⟩;have hx2:=aa hx2 hb1;have c0:=(ai hx2).1 w.heap.size 0 (by simp <;> omega);have c1:=(ai hx2).1 w.heap.size 1 (by simp <;> omega);have e0:=(ai hx2).1 (w.heap.size+1) 0 (by simp <;> omega);have e1:=(ai hx2).1 (w.heap.size+1) 1 (by simp <;> omega);have d0:=(ai hx2).1 (w.heap.size+1+1) 0 (by simp <;> omega);have d1:=(ai hx2).1 (w.heap.size+1+1) 1 (by simp <;> omega);have F0:=(ai hx2).2 (w.heap.size+1+1) 0 (by simp <;> omega);have F1:=(ai hx2).2 (w.heap.size+1+1) 1 (by simp <;> omega);simp[go_sem]at c0 c1 e0 e1 d0 d1 F0 F1;have HB:Hid (Below w.heap.size w w1):=hide (aa (aa below_alloc2 af) hx2);have HS:=hide (dA d0 d1);clear hb1))
  all_goals (
   refine bodyPost_ret (v:=R) ?_ rfl ⟨rfl,by first|exact (HB.out.setCell (by simp <;> omega) _).setCell (by simp <;> omega) _|exact aa below_alloc2 af⟩
   rw[HR.out]
   first|(obtain ⟨S0,S1⟩:=HS.out;simp[results,Tryz.results229,go_sem,S0,S1])|simp[results,Tryz.results229,go_sem]
   all_goals (first|(simp[aO,Kd.cells,fits];done)|(simp[aO,Kd.cells,fits];intros;first|assumption|contradiction|simp_all))))
theorem Om (yk:Int)(xn yn:Bool)(w:World)(q1:(yk==4)=false):
  Calls Tryz.prog 229 #[.agg #[.int .i64 4,.bool xn],.agg #[.int .i64 yk,.bool yn]] w λe w'=>e=.returned (.tuple #[.agg ((⟨4,true⟩,fits ⟨yk,yn⟩ 2):Kd×Bool).1.cells.toArray,.bool ((⟨4,true⟩,fits ⟨yk,yn⟩ 2):Kd×Bool).2])/\Below w.heap.size w w':=by
 have hx2:=Below.refl (((w.alloc (.cells #[.int .i64 4,.bool xn] 173)).alloc (.cells #[.int .i64 yk,.bool yn] 173)).alloc (.cells #[.int .i64 0,.bool false] 173)).heap.size (((w.alloc (.cells #[.int .i64 4,.bool xn] 173)).alloc (.cells #[.int .i64 yk,.bool yn] 173)).alloc (.cells #[.int .i64 0,.bool false] 173))
 obtain ⟨R,hR⟩: ∃R:Value,R=.tuple #[.agg ((⟨4,true⟩,fits ⟨yk,yn⟩ 2):Kd×Bool).1.cells.toArray,.bool ((⟨4,true⟩,fits ⟨yk,yn⟩ 2):Kd×Bool).2]:=⟨_,rfl⟩
 rw[<-hR]
 have HR:=hide hR
 clear hR
 cases xn <;> cases yn
 all_goals (
  go_enter Tryz.func229,Tryz.ntmps229
  go_wp2_with (first|(go_at_call 186;refine (eD _ _ _ _).mono ?_;rintro e w1 ⟨rfl,hb1⟩;have hx2:=aa hx2 hb1;have c0:=(ai hx2).1 w.heap.size 0 (by simp <;> omega);have c1:=(ai hx2).1 w.heap.size 1 (by simp <;> omega);have e0:=(ai hx2).1 (w.heap.size+1) 0 (by simp <;> omega);have e1:=(ai hx2).1 (w.heap.size+1) 1 (by simp <;> omega);have d0:=(ai hx2).1 (w.heap.size+1+1) 0 (by simp <;> omega);have d1:=(ai hx2).1 (w.heap.size+1+1) 1 (by simp <;> omega);have F0:=(ai hx2).2 (w.heap.size+1+1) 0 (by simp <;> omega);have F1:=(ai hx2).2 (w.heap.size+1+1) 1 (by simp <;> omega);simp[go_sem]at c0 c1 e0 e1 d0 d1 F0 F1;have HB:Hid (Below w.heap.size w w1):=hide (aa (aa below_alloc2 af) hx2);have HS:=hide (dA d0 d1);clear hb1))
  all_goals (
   refine bodyPost_ret (v:=R) ?_ rfl ⟨rfl,by first|exact (HB.out.setCell (by simp <;> omega) _).setCell (by simp <;> omega) _|exact aa below_alloc2 af⟩
   rw[HR.out]
   first|(obtain ⟨S0,S1⟩:=HS.out;simp[results,Tryz.results229,go_sem,S0,S1])|simp[results,Tryz.results229,go_sem]
   all_goals (first|(simp[aO,Kd.cells,fits];done)|(simp[aO,Kd.cells,fits];intros;first|assumption|contradiction|simp_all))))
theorem Oi (xn yn:Bool)(w:World):
  Calls Tryz.prog 229 #[.agg #[.int .i64 0,.bool xn],.agg #[.int .i64 4,.bool yn]] w λe w'=>e=.returned (.tuple #[.agg ((⟨2,xn || yn⟩,true):Kd×Bool).1.cells.toArray,.bool ((⟨2,xn || yn⟩,true):Kd×Bool).2])/\Below w.heap.size w w':=by
 have hx2:=Below.refl (((w.alloc (.cells #[.int .i64 0,.bool xn] 173)).alloc (.cells #[.int .i64 4,.bool yn] 173)).alloc (.cells #[.int .i64 0,.bool false] 173)).heap.size (((w.alloc (.cells #[.int .i64 0,.bool xn] 173)).alloc (.cells #[.int .i64 4,.bool yn] 173)).alloc (.cells #[.int .i64 0,.bool false] 173))
 obtain ⟨R,hR⟩: ∃R:Value,R=.tuple #[.agg ((⟨2,xn || yn⟩,true):Kd×Bool).1.cells.toArray,.bool ((⟨2,xn || yn⟩,true):Kd×Bool).2]:=⟨_,rfl⟩
 rw[<-hR]
 have HR:=hide hR
 clear hR
 cases xn <;> cases yn
 all_goals (
  go_enter Tryz.func229,Tryz.ntmps229
  go_wp2_with (first|(go_at_call 186;refine (eD _ _ _ _).mono ?_;rintro e w1 ⟨rfl,hb1⟩;have hx2:=aa hx2 hb1;have c0:=(ai hx2).1 w.heap.size 0 (by simp <;> omega);have c1:=(ai hx2).1 w.heap.size 1 (by simp <;> omega);have e0:=(ai hx2).1 (w.heap.size+1) 0 (by simp <;> omega);have e1:=(ai hx2).1 (w.heap.size+1) 1 (by simp <;> omega);have d0:=(ai hx2).1 (w.heap.size+1+1) 0 (by simp <;> omega);have d1:=(ai hx2).1 (w.heap.size+1+1) 1 (by simp <;> omega);have F0:=(ai hx2).2 (w.heap.size+1+1) 0 (by simp <;> omega);have F1:=(ai hx2).2 (w.heap.size+1+1) 1 (by simp <;> omega);simp[go_sem]at c0 c1 e0 e1 d0 d1 F0 F1;have HB:Hid (Below w.heap.size w w1):=hide (aa (aa below_alloc2 af) hx2);have HS:=hide (dA d0 d1);clear hb1))
  all_goals (
   refine bodyPost_ret (v:=R) ?_ rfl ⟨rfl,by first|exact (HB.out.setCell (by simp <;> omega) _).setCell (by simp <;> omega) _|exact aa below_alloc2 af⟩
   rw[HR.out]
   first|(obtain ⟨S0,S1⟩:=HS.out;simp[results,Tryz.results229,go_sem,S0,S1])|simp[results,Tryz.results229,go_sem]
   all_goals (first|(simp[aO,Kd.cells,fits];done)|(simp[aO,Kd.cells,fits];intros;first|assumption|contradiction|simp_all))))
theorem Oo (xk:Int)(xn yn:Bool)(w:World)(q1:(xk==4)=false)(q2:(xk==0)=false):
  Calls Tryz.prog 229 #[.agg #[.int .i64 xk,.bool xn],.agg #[.int .i64 4,.bool yn]] w λe w'=>e=.returned (.tuple #[.agg ((⟨2,true⟩,fits ⟨xk,xn⟩ 2&&fits ⟨4,yn⟩ 2):Kd×Bool).1.cells.toArray,.bool ((⟨2,true⟩,fits ⟨xk,xn⟩ 2&&fits ⟨4,yn⟩ 2):Kd×Bool).2])/\Below w.heap.size w w':=by
 have hx2:=Below.refl (((w.alloc (.cells #[.int .i64 xk,.bool xn] 173)).alloc (.cells #[.int .i64 4,.bool yn] 173)).alloc (.cells #[.int .i64 0,.bool false] 173)).heap.size (((w.alloc (.cells #[.int .i64 xk,.bool xn] 173)).alloc (.cells #[.int .i64 4,.bool yn] 173)).alloc (.cells #[.int .i64 0,.bool false] 173))
 obtain ⟨R,hR⟩: ∃R:Value,R=.tuple #[.agg ((⟨2,true⟩,fits ⟨xk,xn⟩ 2&&fits ⟨4,yn⟩ 2):Kd×Bool).1.cells.toArray,.bool ((⟨2,true⟩,fits ⟨xk,xn⟩ 2&&fits ⟨4,yn⟩ 2):Kd×Bool).2]:=⟨_,rfl⟩
 rw[<-hR]
 have HR:=hide hR
 clear hR
 cases xn <;> cases yn
 all_goals (
  go_enter Tryz.func229,Tryz.ntmps229
  go_wp2_with (first|(go_at_call 186;refine (eD _ _ _ _).mono ?_;rintro e w1 ⟨rfl,hb1⟩;have hx2:=aa hx2 hb1;have c0:=(ai hx2).1 w.heap.size 0 (by simp <;> omega);have c1:=(ai hx2).1 w.heap.size 1 (by simp <;> omega);have e0:=(ai hx2).1 (w.heap.size+1) 0 (by simp <;> omega);have e1:=(ai hx2).1 (w.heap.size+1) 1 (by simp <;> omega);have d0:=(ai hx2).1 (w.heap.size+1+1) 0 (by simp <;> omega);have d1:=(ai hx2).1 (w.heap.size+1+1) 1 (by simp <;> omega);have F0:=(ai hx2).2 (w.heap.size+1+1) 0 (by simp <;> omega);have F1:=(ai hx2).2 (w.heap.size+1+1) 1 (by simp <;> omega);simp[go_sem]at c0 c1 e0 e1 d0 d1 F0 F1;have HB:Hid (Below w.heap.size w w1):=hide (aa (aa below_alloc2 af) hx2);have HS:=hide (dA d0 d1);clear hb1))
  all_goals (
   refine bodyPost_ret (v:=R) ?_ rfl ⟨rfl,by first|exact (HB.out.setCell (by simp <;> omega) _).setCell (by simp <;> omega) _|exact aa below_alloc2 af⟩
   rw[HR.out]
   first|(obtain ⟨S0,S1⟩:=HS.out;simp[results,Tryz.results229,go_sem,S0,S1])|simp[results,Tryz.results229,go_sem]
   all_goals (first|(simp[aO,Kd.cells,fits];done)|(simp[aO,Kd.cells,fits];intros;first|assumption|contradiction|simp_all))))
theorem Oj (yk:Int)(xn yn:Bool)(w:World)(q1:(yk==4)=false):
  Calls Tryz.prog 229 #[.agg #[.int .i64 0,.bool xn],.agg #[.int .i64 yk,.bool yn]] w λe w'=>e=.returned (.tuple #[.agg ((⟨2,true⟩,fits ⟨0,xn⟩ 2&&fits ⟨yk,yn⟩ 2):Kd×Bool).1.cells.toArray,.bool ((⟨2,true⟩,fits ⟨0,xn⟩ 2&&fits ⟨yk,yn⟩ 2):Kd×Bool).2])/\Below w.heap.size w w':=by
 have hx2:=Below.refl (((w.alloc (.cells #[.int .i64 0,.bool xn] 173)).alloc (.cells #[.int .i64 yk,.bool yn] 173)).alloc (.cells #[.int .i64 0,.bool false] 173)).heap.size (((w.alloc (.cells #[.int .i64 0,.bool xn] 173)).alloc (.cells #[.int .i64 yk,.bool yn] 173)).alloc (.cells #[.int .i64 0,.bool false] 173))
 obtain ⟨R,hR⟩: ∃R:Value,R=.tuple #[.agg ((⟨2,true⟩,fits ⟨0,xn⟩ 2&&fits ⟨yk,yn⟩ 2):Kd×Bool).1.cells.toArray,.bool ((⟨2,true⟩,fits ⟨0,xn⟩ 2&&fits ⟨yk,yn⟩ 2):Kd×Bool).2]:=⟨_,rfl⟩
 rw[<-hR]
 have HR:=hide hR
 clear hR
 cases xn <;> cases yn
 all_goals (
  go_enter Tryz.func229,Tryz.ntmps229
  go_wp2_with (first|(go_at_call 186;refine (eD _ _ _ _).mono ?_;rintro e w1 ⟨rfl,hb1⟩;have hx2:=aa hx2 hb1;have c0:=(ai hx2).1 w.heap.size 0 (by simp <;> omega);have c1:=(ai hx2).1 w.heap.size 1 (by simp <;> omega);have e0:=(ai hx2).1 (w.heap.size+1) 0 (by simp <;> omega);have e1:=(ai hx2).1 (w.heap.size+1) 1 (by simp <;> omega);have d0:=(ai hx2).1 (w.heap.size+1+1) 0 (by simp <;> omega);have d1:=(ai hx2).1 (w.heap.size+1+1) 1 (by simp <;> omega);have F0:=(ai hx2).2 (w.heap.size+1+1) 0 (by simp <;> omega);have F1:=(ai hx2).2 (w.heap.size+1+1) 1 (by simp <;> omega);simp[go_sem]at c0 c1 e0 e1 d0 d1 F0 F1;have HB:Hid (Below w.heap.size w w1):=hide (aa (aa below_alloc2 af) hx2);have HS:=hide (dA d0 d1);clear hb1))
  all_goals (
   refine bodyPost_ret (v:=R) ?_ rfl ⟨rfl,by first|exact (HB.out.setCell (by simp <;> omega) _).setCell (by simp <;> omega) _|exact aa below_alloc2 af⟩
   rw[HR.out]
   first|(obtain ⟨S0,S1⟩:=HS.out;simp[results,Tryz.results229,go_sem,S0,S1])|simp[results,Tryz.results229,go_sem]
   all_goals (first|(simp[aO,Kd.cells];done)|(simp[aO,Kd.cells];intros;first|assumption|contradiction|simp_all))))
theorem Oq (xk:Int)(yk:Int)(xn yn:Bool)(w:World)(q1:(xk==4)=false)(q2:(yk==4)=false)(q3:(xk==0)=false):
  Calls Tryz.prog 229 #[.agg #[.int .i64 xk,.bool xn],.agg #[.int .i64 yk,.bool yn]] w λe w'=>e=.returned (.tuple #[.agg ((⟨2,true⟩,fits ⟨xk,xn⟩ 2&&fits ⟨yk,yn⟩ 2):Kd×Bool).1.cells.toArray,.bool ((⟨2,true⟩,fits ⟨xk,xn⟩ 2&&fits ⟨yk,yn⟩ 2):Kd×Bool).2])/\Below w.heap.size w w':=by
 have hx2:=Below.refl (((w.alloc (.cells #[.int .i64 xk,.bool xn] 173)).alloc (.cells #[.int .i64 yk,.bool yn] 173)).alloc (.cells #[.int .i64 0,.bool false] 173)).heap.size (((w.alloc (.cells #[.int .i64 xk,.bool xn] 173)).alloc (.cells #[.int .i64 yk,.bool yn] 173)).alloc (.cells #[.int .i64 0,.bool false] 173))
 obtain ⟨R,hR⟩: ∃R:Value,R=.tuple #[.agg ((⟨2,true⟩,fits ⟨xk,xn⟩ 2&&fits ⟨yk,yn⟩ 2):Kd×Bool).1.cells.toArray,.bool ((⟨2,true⟩,fits ⟨xk,xn⟩ 2&&fits ⟨yk,yn⟩ 2):Kd×Bool).2]:=⟨_,rfl⟩
 rw[<-hR]
 have HR:=hide hR
 clear hR
 cases xn <;> cases yn
 all_goals (
  go_enter Tryz.func229,Tryz.ntmps229
  go_wp2_with (first|(go_at_call 186;refine (eD _ _ _ _).mono ?_;rintro e w1 ⟨rfl,hb1⟩;have hx2:=aa hx2 hb1;have c0:=(ai hx2).1 w.heap.size 0 (by simp <;> omega);have c1:=(ai hx2).1 w.heap.size 1 (by simp <;> omega);have e0:=(ai hx2).1 (w.heap.size+1) 0 (by simp <;> omega);have e1:=(ai hx2).1 (w.heap.size+1) 1 (by simp <;> omega);have d0:=(ai hx2).1 (w.heap.size+1+1) 0 (by simp <;> omega);have d1:=(ai hx2).1 (w.heap.size+1+1) 1 (by simp <;> omega);have F0:=(ai hx2).2 (w.heap.size+1+1) 0 (by simp <;> omega);have F1:=(ai hx2).2 (w.heap.size+1+1) 1 (by simp <;> omega);simp[go_sem]at c0 c1 e0 e1 d0 d1 F0 F1;have HB:Hid (Below w.heap.size w w1):=hide (aa (aa below_alloc2 af) hx2);have HS:=hide (dA d0 d1);clear hb1))
  all_goals (
   refine bodyPost_ret (v:=R) ?_ rfl ⟨rfl,by first|exact (HB.out.setCell (by simp <;> omega) _).setCell (by simp <;> omega) _|exact aa below_alloc2 af⟩
   rw[HR.out]
   first|(obtain ⟨S0,S1⟩:=HS.out;simp[results,Tryz.results229,go_sem,S0,S1])|simp[results,Tryz.results229,go_sem]
   all_goals (first|(simp[aO,Kd.cells];done)|(simp[aO,Kd.cells];intros;first|assumption|contradiction|simp_all))))
def gI (r:Kd×Bool)(e:Ending):Prop:= ∃k:Kd,e=.returned (.tuple #[.agg k.cells.toArray,.bool r.2])/\(r.2=true->k=r.1)
theorem gI.mk {r s:Kd×Bool}{e:Ending}(h:e=.returned (.tuple #[.agg s.1.cells.toArray,.bool s.2]))(h2:s.2=r.2)(h1:r.2=true->s.1=r.1):gI r e:=⟨s.1,by rw[h,h2],h1⟩
theorem yM (xk yk:Int)(xn yn:Bool)(w:World):
  Calls Tryz.prog 229 #[.agg #[.int .i64 xk,.bool xn],.agg #[.int .i64 yk,.bool yn]] w λe w'=>gI (aO 5 ⟨xk,xn⟩ ⟨yk,yn⟩) e/\Below w.heap.size w w':=by
 by_cases h1:xk=4
 ·subst h1
  by_cases h2:yk=4
  ·subst h2
   exact (Ol xn yn w).mono λe w' h=>⟨gI.mk h.1 (by simp[aO,fits]) (by simp[aO,fits]),h.2⟩
  ·exact (Om yk xn yn w (by simpa using h2)).mono λe w' h=>⟨gI.mk h.1 (by simp[aO,h2]) (by simp[aO,h2]),h.2⟩
 ·by_cases h2:yk=4
  ·subst h2
   by_cases h3:xk=0
   ·subst h3
    exact (Oi xn yn w).mono λe w' h=>⟨gI.mk h.1 (by simp[aO,fits]) (by simp[aO,fits]),h.2⟩
   ·exact (Oo xk xn yn w (by simpa using h1) (by simpa using h3)).mono λe w' h=>⟨gI.mk h.1 (by simp[aO,fits,h1,h3]) (by simp[aO,fits,h1,h3]),h.2⟩
  ·by_cases h3:xk=0
   ·subst h3
    exact (Oj yk xn yn w (by simpa using h2)).mono λe w' h=>⟨gI.mk h.1 (by simp[aO,h2]) (by simp[aO,h2]),h.2⟩
   exact (Oq xk yk xn yn w (by simpa using h1) (by simpa using h2) (by simpa using h3)).mono λe w' h=>⟨gI.mk h.1 (by simp[aO,h1,h2]) (by simp[aO,h1,h2]),h.2⟩
end Go.Proofs.YtggejcekmehocaaGreatDoor
