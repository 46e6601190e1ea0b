/-
  warehouseref9.unary, difference and binary: they return unKd and binKd. (Printed by gen_ref9.py.)
-/
import Derived.Test.YtopjjlmfilgngaaGreatDoorGan
import Derived.Test.YtopjjlmfilgngaaGreatDoorGah
namespace Go.Proofs.YtopjjlmfilgngaaGreatDoor
set_option maxHeartbeats 4000000
set_option maxRecDepth 100000
open Go.RowKit
set_option linter.unusedSimpArgs false
set_option linter.unusedVariables false
theorem dK {w:World}{g:Nat}{u0 u1:Value}(h0:w.cell? ⟨g,0,none⟩=some u0)(h1:w.cell? ⟨g,1,none⟩=some u1):
  (∀a,(w.setCell ⟨g,0,none⟩ a).cell? ⟨g,0,none⟩=some a)/\(∀a b,((w.setCell ⟨g,0,none⟩ a).setCell ⟨g,1,none⟩ b).cell? ⟨g,1,none⟩=some b):=
 ⟨λa=>cO h0,λa b=>cO (ag h1 (.inr (by omega)))⟩
theorem Qh (xn yn:Bool)(w:World):
  Calls Tryz.prog 195 #[.agg #[.int .i64 4,.bool xn],.agg #[.int .i64 4,.bool yn]] w λe w'=>e=.returned (.tuple #[.agg ((⟨2,xn || yn⟩,true):Kd×Bool).1.cells.toArray,.bool ((⟨2,xn || yn⟩,true):Kd×Bool).2])/\Below w.heap.size w w':=by
 have hx2:=Below.refl (((w.alloc (.cells #[.int .i64 4,.bool xn] 170)).alloc (.cells #[.int .i64 4,.bool yn] 170)).alloc (.cells #[.int .i64 0,.bool false] 170)).heap.size (((w.alloc (.cells #[.int .i64 4,.bool xn] 170)).alloc (.cells #[.int .i64 4,.bool yn] 170)).alloc (.cells #[.int .i64 0,.bool false] 170));obtain ⟨R,hR⟩: ∃R:Value,R=.tuple #[.agg ((⟨2,xn || yn⟩,true):Kd×Bool).1.cells.toArray,.bool ((⟨2,xn || yn⟩,true):Kd×Bool).2]:=⟨_,rfl⟩;rw[<-hR];have HR:=hide hR;clear hR;cases xn <;> cases yn;all_goals (
  go_enter Tryz.func195,Tryz.ntmps195;go_wp2_with (first|(go_at_call 157;refine (iA _ _ _ _).mono ?_;rintro e w1 ⟨rfl,hb1⟩;have hx2:=aa hx2 hb1;have c0:=(au hx2).1 w.heap.size 0 (by simp <;> omega);have c1:=(au hx2).1 w.heap.size 1 (by simp <;> omega);have e0:=(au hx2).1 (w.heap.size+1) 0 (by simp <;> omega);have e1:=(au hx2).1 (w.heap.size+1) 1 (by simp <;> omega);have d0:=(au hx2).1 (w.heap.size+1+1) 0 (by simp <;> omega);have d1:=(au hx2).1 (w.heap.size+1+1) 1 (by simp <;> omega);have F0:=(au hx2).2 (w.heap.size+1+1) 0 (by simp <;> omega);have F1:=(au hx2).2 (w.heap.size+1+1) 1 (by simp <;> omega);simp[go_sem]at c0 c1 e0 e1 d0 d1 F0 F1;have HB:Hid (Below w.heap.size w w1):=hide (aa (aa below_alloc2 ae) hx2);have HS:=hide (dK d0 d1);clear hb1));all_goals (
   refine bodyPost_ret (v:=R) ?_ rfl ⟨rfl,by first|exact (HB.out.setCell (by simp <;> omega) _).setCell (by simp <;> omega) _|exact aa below_alloc2 ae⟩;rw[HR.out]
   first|(obtain ⟨S0,S1⟩:=HS.out;simp[results,Tryz.results195,go_sem,S0,S1])|simp[results,Tryz.results195,go_sem]
   all_goals (first|(simp[aM,Kd.cells,fits];done)|(simp[aM,Kd.cells,fits];intros;first|assumption|contradiction|simp_all))))
theorem Qi (yk:Int)(xn yn:Bool)(w:World)(q1:(yk==4)=false):
  Calls Tryz.prog 195 #[.agg #[.int .i64 4,.bool xn],.agg #[.int .i64 yk,.bool yn]] w λe w'=>e=.returned (.tuple #[.agg ((⟨4,true⟩,fits ⟨yk,yn⟩ 2):Kd×Bool).1.cells.toArray,.bool ((⟨4,true⟩,fits ⟨yk,yn⟩ 2):Kd×Bool).2])/\Below w.heap.size w w':=by
 have hx2:=Below.refl (((w.alloc (.cells #[.int .i64 4,.bool xn] 170)).alloc (.cells #[.int .i64 yk,.bool yn] 170)).alloc (.cells #[.int .i64 0,.bool false] 170)).heap.size (((w.alloc (.cells #[.int .i64 4,.bool xn] 170)).alloc (.cells #[.int .i64 yk,.bool yn] 170)).alloc (.cells #[.int .i64 0,.bool false] 170));obtain ⟨R,hR⟩: ∃R:Value,R=.tuple #[.agg ((⟨4,true⟩,fits ⟨yk,yn⟩ 2):Kd×Bool).1.cells.toArray,.bool ((⟨4,true⟩,fits ⟨yk,yn⟩ 2):Kd×Bool).2]:=⟨_,rfl⟩;rw[<-hR];have HR:=hide hR;clear hR;cases xn <;> cases yn;all_goals (
  go_enter Tryz.func195,Tryz.ntmps195;go_wp2_with (first|(go_at_call 157;refine (iA _ _ _ _).mono ?_;rintro e w1 ⟨rfl,hb1⟩;have hx2:=aa hx2 hb1;have c0:=(au hx2).1 w.heap.size 0 (by simp <;> omega);have c1:=(au hx2).1 w.heap.size 1 (by simp <;> omega);have e0:=(au hx2).1 (w.heap.size+1) 0 (by simp <;> omega);have e1:=(au hx2).1 (w.heap.size+1) 1 (by simp <;> omega);have d0:=(au hx2).1 (w.heap.size+1+1) 0 (by simp <;> omega);have d1:=(au hx2).1 (w.heap.size+1+1) 1 (by simp <;> omega);have F0:=(au hx2).2 (w.heap.size+1+1) 0 (by simp <;> omega);have F1:=(au hx2).2 (w.heap.size+1+1) 1 (by simp <;> omega);simp[go_sem]at c0 c1 e0 e1 d0 d1 F0 F1;have HB:Hid (Below w.heap.size w w1):=hide (aa (aa below_alloc2 ae) hx2);have HS:=hide (dK d0 d1);clear hb1));all_goals (
   refine bodyPost_ret (v:=R) ?_ rfl ⟨rfl,by first|exact (HB.out.setCell (by simp <;> omega) _).setCell (by simp <;> omega) _|exact aa below_alloc2 ae⟩;rw[HR.out]
   first|(obtain ⟨S0,S1⟩:=HS.out;simp[results,Tryz.results195,go_sem,S0,S1])|simp[results,Tryz.results195,go_sem]
   all_goals (first|(simp[aM,Kd.cells,fits];done)|(simp[aM,Kd.cells,fits];intros;first|assumption|contradiction|simp_all))))
theorem Qf (xn yn:Bool)(w:World):
  Calls Tryz.prog 195 #[.agg #[.int .i64 0,.bool xn],.agg #[.int .i64 4,.bool yn]] w λe w'=>e=.returned (.tuple #[.agg ((⟨2,xn || yn⟩,true):Kd×Bool).1.cells.toArray,.bool ((⟨2,xn || yn⟩,true):Kd×Bool).2])/\Below w.heap.size w w':=by
 have hx2:=Below.refl (((w.alloc (.cells #[.int .i64 0,.bool xn] 170)).alloc (.cells #[.int .i64 4,.bool yn] 170)).alloc (.cells #[.int .i64 0,.bool false] 170)).heap.size (((w.alloc (.cells #[.int .i64 0,.bool xn] 170)).alloc (.cells #[.int .i64 4,.bool yn] 170)).alloc (.cells #[.int .i64 0,.bool false] 170));obtain ⟨R,hR⟩: ∃R:Value,R=.tuple #[.agg ((⟨2,xn || yn⟩,true):Kd×Bool).1.cells.toArray,.bool ((⟨2,xn || yn⟩,true):Kd×Bool).2]:=⟨_,rfl⟩;rw[<-hR];have HR:=hide hR;clear hR;cases xn <;> cases yn;all_goals (
  go_enter Tryz.func195,Tryz.ntmps195;go_wp2_with (first|(go_at_call 157;refine (iA _ _ _ _).mono ?_;rintro e w1 ⟨rfl,hb1⟩;have hx2:=aa hx2 hb1;have c0:=(au hx2).1 w.heap.size 0 (by simp <;> omega);have c1:=(au hx2).1 w.heap.size 1 (by simp <;> omega);have e0:=(au hx2).1 (w.heap.size+1) 0 (by simp <;> omega);have e1:=(au hx2).1 (w.heap.size+1) 1 (by simp <;> omega);have d0:=(au hx2).1 (w.heap.size+1+1) 0 (by simp <;> omega);have d1:=(au hx2).1 (w.heap.size+1+1) 1 (by simp <;> omega);have F0:=(au hx2).2 (w.heap.size+1+1) 0 (by simp <;> omega);have F1:=(au hx2).2 (w.heap.size+1+1) 1 (by simp <;> omega);simp[go_sem]at c0 c1 e0 e1 d0 d1 F0 F1;have HB:Hid (Below w.heap.size w w1):=hide (aa (aa below_alloc2 ae) hx2);have HS:=hide (dK d0 d1);clear hb1));all_goals (
   refine bodyPost_ret (v:=R) ?_ rfl ⟨rfl,by first|exact (HB.out.setCell (by simp <;> omega) _).setCell (by simp <;> omega) _|exact aa below_alloc2 ae⟩;rw[HR.out]
   first|(obtain ⟨S0,S1⟩:=HS.out;simp[results,Tryz.results195,go_sem,S0,S1])|simp[results,Tryz.results195,go_sem]
   all_goals (first|(simp[aM,Kd.cells,fits];done)|(simp[aM,Kd.cells,fits];intros;first|assumption|contradiction|simp_all))))
theorem Qj (xk:Int)(xn yn:Bool)(w:World)(q1:(xk==4)=false)(q2:(xk==0)=false):
  Calls Tryz.prog 195 #[.agg #[.int .i64 xk,.bool xn],.agg #[.int .i64 4,.bool yn]] w λe w'=>e=.returned (.tuple #[.agg ((⟨2,true⟩,fits ⟨xk,xn⟩ 2&&fits ⟨4,yn⟩ 2):Kd×Bool).1.cells.toArray,.bool ((⟨2,true⟩,fits ⟨xk,xn⟩ 2&&fits ⟨4,yn⟩ 2):Kd×Bool).2])/\Below w.heap.size w w':=by
 have hx2:=Below.refl (((w.alloc (.cells #[.int .i64 xk,.bool xn] 170)).alloc (.cells #[.int .i64 4,.bool yn] 170)).alloc (.cells #[.int .i64 0,.bool false] 170)).heap.size (((w.alloc (.cells #[.int .i64 xk,.bool xn] 170)).alloc (.cells #[.int .i64 4,.bool yn] 170)).alloc (.cells #[.int .i64 0,.bool false] 170));obtain ⟨R,hR⟩: ∃R:Value,R=.tuple #[.agg ((⟨2,true⟩,fits ⟨xk,xn⟩ 2&&fits ⟨4,yn⟩ 2):Kd×Bool).1.cells.toArray,.bool ((⟨2,true⟩,fits ⟨xk,xn⟩ 2&&fits ⟨4,yn⟩ 2):Kd×Bool).2]:=⟨_,rfl⟩;rw[<-hR];have HR:=hide hR;clear hR;cases xn <;> cases yn;all_goals (
  go_enter Tryz.func195,Tryz.ntmps195;go_wp2_with (first|(go_at_call 157;refine (iA _ _ _ _).mono ?_;rintro e w1 ⟨rfl,hb1⟩;have hx2:=aa hx2 hb1;have c0:=(au hx2).1 w.heap.size 0 (by simp <;> omega);have c1:=(au hx2).1 w.heap.size 1 (by simp <;> omega);have e0:=(au hx2).1 (w.heap.size+1) 0 (by simp <;> omega);have e1:=(au hx2).1 (w.heap.size+1) 1 (by simp <;> omega);have d0:=(au hx2).1 (w.heap.size+1+1) 0 (by simp <;> omega);have d1:=(au hx2).1 (w.heap.size+1+1) 1 (by simp <;> omega);have F0:=(au hx2).2 (w.heap.size+1+1) 0 (by simp <;> omega);have F1:=(au hx2).2 (w.heap.size+1+1) 1 (by simp <;> omega);simp[go_sem]at c0 c1 e0 e1 d0 d1 F0 F1;have HB:Hid (Below w.heap.size w w1):=hide (aa (aa below_alloc2 ae) hx2);have HS:=hide (dK d0 d1);clear hb1));all_goals (
   refine bodyPost_ret (v:=R) ?_ rfl ⟨rfl,by first|exact (HB.out.setCell (by simp <;> omega) _).setCell (by simp <;> omega) _|exact aa below_alloc2 ae⟩;rw[HR.out]
   first|(obtain ⟨S0,S1⟩:=HS.out;simp[results,Tryz.results195,go_sem,S0,S1])|simp[results,Tryz.results195,go_sem]
   all_goals (first|(simp[aM,Kd.cells,fits];done)|(simp[aM,Kd.cells,fits];intros;first|assumption|contradiction|simp_all))))
theorem Qg (yk:Int)(xn yn:Bool)(w:World)(q1:(yk==4)=false):
  Calls Tryz.prog 195 #[.agg #[.int .i64 0,.bool xn],.agg #[.int .i64 yk,.bool yn]] w λe w'=>e=.returned (.tuple #[.agg ((⟨2,true⟩,fits ⟨0,xn⟩ 2&&fits ⟨yk,yn⟩ 2):Kd×Bool).1.cells.toArray,.bool ((⟨2,true⟩,fits ⟨0,xn⟩ 2&&fits ⟨yk,yn⟩ 2):Kd×Bool).2])/\Below w.heap.size w w':=by
 have hx2:=Below.refl (((w.alloc (.cells #[.int .i64 0,.bool xn] 170)).alloc (.cells #[.int .i64 yk,.bool yn] 170)).alloc (.cells #[.int .i64 0,.bool false] 170)).heap.size (((w.alloc (.cells #[.int .i64 0,.bool xn] 170)).alloc (.cells #[.int .i64 yk,.bool yn] 170)).alloc (.cells #[.int .i64 0,.bool false] 170));obtain ⟨R,hR⟩: ∃R:Value,R=.tuple #[.agg ((⟨2,true⟩,fits ⟨0,xn⟩ 2&&fits ⟨yk,yn⟩ 2):Kd×Bool).1.cells.toArray,.bool ((⟨2,true⟩,fits ⟨0,xn⟩ 2&&fits ⟨yk,yn⟩ 2):Kd×Bool).2]:=⟨_,rfl⟩;rw[<-hR];have HR:=hide hR;clear hR;cases xn <;> cases yn;all_goals (
  go_enter Tryz.func195,Tryz.ntmps195;go_wp2_with (first|(go_at_call 157;refine (iA _ _ _ _).mono ?_;rintro e w1 ⟨rfl,hb1⟩;have hx2:=aa hx2 hb1;have c0:=(au hx2).1 w.heap.size 0 (by simp <;> omega);have c1:=(au hx2).1 w.heap.size 1 (by simp <;> omega);have e0:=(au hx2).1 (w.heap.size+1) 0 (by simp <;> omega);have e1:=(au hx2).1 (w.heap.size+1) 1 (by simp <;> omega);have d0:=(au hx2).1 (w.heap.size+1+1) 0 (by simp <;> omega);have d1:=(au hx2).1 (w.heap.size+1+1) 1 (by simp <;> omega);have F0:=(au hx2).2 (w.heap.size+1+1) 0 (by simp <;> omega);have F1:=(au hx2).2 (w.heap.size+1+1) 1 (by simp <;> omega);simp[go_sem]at c0 c1 e0 e1 d0 d1 F0 F1;have HB:Hid (Below w.heap.size w w1):=hide (aa (aa below_alloc2 ae) hx2);have HS:=hide (dK d0 d1);clear hb1));all_goals (
   refine bodyPost_ret (v:=R) ?_ rfl ⟨rfl,by first|exact (HB.out.setCell (by simp <;> omega) _).setCell (by simp <;> omega) _|exact aa below_alloc2 ae⟩;rw[HR.out]
   first|(obtain ⟨S0,S1⟩:=HS.out;simp[results,Tryz.results195,go_sem,S0,S1])|simp[results,Tryz.results195,go_sem]
   all_goals (first|(simp[aM,Kd.cells];done)|(simp[aM,Kd.cells];intros;first|assumption|contradiction|simp_all))))
theorem Qk (xk:Int)(yk:Int)(xn yn:Bool)(w:World)(q1:(xk==4)=false)(q2:(yk==4)=false)(q3:(xk==0)=false):
  Calls Tryz.prog 195 #[.agg #[.int .i64 xk,.bool xn],.agg #[.int .i64 yk,.bool yn]] w λe w'=>e=.returned (.tuple #[.agg ((⟨2,true⟩,fits ⟨xk,xn⟩ 2&&fits ⟨yk,yn⟩ 2):Kd×Bool).1.cells.toArray,.bool ((⟨2,true⟩,fits ⟨xk,xn⟩ 2&&fits ⟨yk,yn⟩ 2):Kd×Bool).2])/\Below w.heap.size w w':=by
 have hx2:=Below.refl (((w.alloc (.cells #[.int .i64 xk,.bool xn] 170)).alloc (.cells #[.int .i64 yk,.bool yn] 170)).alloc (.cells #[.int .i64 0,.bool false] 170)).heap.size (((w.alloc (.cells #[.int .i64 xk,.bool xn] 170)).alloc (.cells #[.int .i64 yk,.bool yn] 170)).alloc (.cells #[.int .i64 0,.bool false] 170));obtain ⟨R,hR⟩: ∃R:Value,R=.tuple #[.agg ((⟨2,true⟩,fits ⟨xk,xn⟩ 2&&fits ⟨yk,yn⟩ 2):Kd×Bool).1.cells.toArray,.bool ((⟨2,true⟩,fits ⟨xk,xn⟩ 2&&fits ⟨yk,yn⟩ 2):Kd×Bool).2]:=⟨_,rfl⟩;rw[<-hR];have HR:=hide hR;clear hR;cases xn <;> cases yn;all_goals (
  go_enter Tryz.func195,Tryz.ntmps195;go_wp2_with (first|(go_at_call 157;refine (iA _ _ _ _).mono ?_;rintro e w1 ⟨rfl,hb1⟩;have hx2:=aa hx2 hb1;have c0:=(au hx2).1 w.heap.size 0 (by simp <;> omega);have c1:=(au hx2).1 w.heap.size 1 (by simp <;> omega);have e0:=(au hx2).1 (w.heap.size+1) 0 (by simp <;> omega);have e1:=(au hx2).1 (w.heap.size+1) 1 (by simp <;> omega);have d0:=(au hx2).1 (w.heap.size+1+1) 0 (by simp <;> omega);have d1:=(au hx2).1 (w.heap.size+1+1) 1 (by simp <;> omega);have F0:=(au hx2).2 (w.heap.size+1+1) 0 (by simp <;> omega);have F1:=(au hx2).2 (w.heap.size+1+1) 1 (by simp <;> omega);simp[go_sem]at c0 c1 e0 e1 d0 d1 F0 F1;have HB:Hid (Below w.heap.size w w1):=hide (aa (aa below_alloc2 ae) hx2);have HS:=hide (dK d0 d1);clear hb1));all_goals (
   refine bodyPost_ret (v:=R) ?_ rfl ⟨rfl,by first|exact (HB.out.setCell (by simp <;> omega) _).setCell (by simp <;> omega) _|exact aa below_alloc2 ae⟩;rw[HR.out]
   first|(obtain ⟨S0,S1⟩:=HS.out;simp[results,Tryz.results195,go_sem,S0,S1])|simp[results,Tryz.results195,go_sem]
   all_goals (first|(simp[aM,Kd.cells];done)|(simp[aM,Kd.cells];intros;first|assumption|contradiction|simp_all))))
def iH (r:Kd×Bool)(e:Ending):Prop:= ∃k:Kd,e=.returned (.tuple #[.agg k.cells.toArray,.bool r.2])/\(r.2=true->k=r.1)
theorem iH.mk {r s:Kd×Bool}{e:Ending}(h:e=.returned (.tuple #[.agg s.1.cells.toArray,.bool s.2]))(h2:s.2=r.2)(h1:r.2=true->s.1=r.1):iH r e:=⟨s.1,by rw[h,h2],h1⟩
theorem yN (xk yk:Int)(xn yn:Bool)(w:World):
  Calls Tryz.prog 195 #[.agg #[.int .i64 xk,.bool xn],.agg #[.int .i64 yk,.bool yn]] w λe w'=>iH (aM 5 ⟨xk,xn⟩ ⟨yk,yn⟩) e/\Below w.heap.size w w':=by
 by_cases h1:xk=4
 ·subst h1;by_cases h2:yk=4
  ·subst h2;exact (Qh xn yn w).mono λe w' h=>⟨iH.mk h.1 (by simp[aM,fits]) (by simp[aM,fits]),h.2⟩
  ·exact (Qi yk xn yn w (by simpa using h2)).mono λe w' h=>⟨iH.mk h.1 (by simp[aM,h2]) (by simp[aM,h2]),h.2⟩
 ·by_cases h2:yk=4
  ·subst h2;by_cases h3:xk=0
   ·subst h3;exact (Qf xn yn w).mono λe w' h=>⟨iH.mk h.1 (by simp[aM,fits]) (by simp[aM,fits]),h.2⟩
   ·exact (Qj xk xn yn w (by simpa using h1) (by simpa using h3)).mono λe w' h=>⟨iH.mk h.1 (by simp[aM,fits,h1,h3]) (by simp[aM,fits,h1,h3]),h.2⟩
  ·by_cases h3:xk=0
   ·subst h3;exact (Qg yk xn yn w (by simpa using h2)).mono λe w' h=>⟨iH.mk h.1 (by simp[aM,h2]) (by simp[aM,h2]),h.2⟩
   exact (Qk xk yk xn yn w (by simpa using h1) (by simpa using h2) (by simpa using h3)).mono λe w' h=>⟨iH.mk h.1 (by simp[aM,h1,h2]) (by simp[aM,h1,h2]),h.2⟩
end Go.Proofs.YtopjjlmfilgngaaGreatDoor
