/-
  warehouseref9.unary, difference and binary: they return unKd and binKd. (Printed by gen_ref9.py.)
-/
import Derived.Test.YtopjjlmfilgngaaGreatDoorGan
namespace Go.Proofs.YtopjjlmfilgngaaGreatDoor
set_option maxHeartbeats 4000000
set_option maxRecDepth 100000
open Go.RowKit
set_option linter.unusedSimpArgs false
set_option linter.unusedVariables false
theorem jy {w:World}{g:Nat}{e f:Value}(c:w.cell? ⟨g,0,none⟩=some e)(d:w.cell? ⟨g,1,none⟩=some f):
  (∀a,(w.setCell ⟨g,0,none⟩ a).cell? ⟨g,0,none⟩=some a)/\(∀a b,((w.setCell ⟨g,0,none⟩ a).setCell ⟨g,1,none⟩ b).cell? ⟨g,1,none⟩=some b):=
 ⟨λa=>iC c,λa b=>iC (fM d (.inr (by omega)))⟩
theorem MP (b c:Bool)(w:World):
  Calls Tryz.prog 195 #[.agg #[.int .i64 4,.bool b],.agg #[.int .i64 4,.bool c]] w λe w'=>e=.returned (.tuple #[.agg ((⟨2,b || c⟩,true):Kd×Bool).1.cells.toArray,.bool ((⟨2,b || c⟩,true):Kd×Bool).2])/\Below w.heap.size w w':=by
 have a:=Below.refl (((w.alloc (.cells #[.int .i64 4,.bool b] 170)).alloc (.cells #[.int .i64 4,.bool c] 170)).alloc (.cells #[.int .i64 0,.bool false] 170)).heap.size (((w.alloc (.cells #[.int .i64 4,.bool b] 170)).alloc (.cells #[.int .i64 4,.bool c] 170)).alloc (.cells #[.int .i64 0,.bool false] 170));obtain⟨R,d⟩: ∃R:Value,R=.tuple #[.agg ((⟨2,b || c⟩,true):Kd×Bool).1.cells.toArray,.bool ((⟨2,b || c⟩,true):Kd×Bool).2]:=⟨_,rfl⟩;rw[<-d];have l:=Hm d;clear d;cases b<;>cases c;all_goals(
  go_enter Tryz.func195,Tryz.ntmps195;go_wp2_with (first|(go_at_call 157;refine(lC _ _ _ _).mono ?_;rintro e s ⟨rfl,h⟩;have a:=fH a h;have c0:=(fU a).1 w.heap.size 0 (by simp<;>omega);have c1:=(fU a).1 w.heap.size 1 (by simp<;>omega);have q:=(fU a).1 (w.heap.size+1) 0 (by simp<;>omega);have r:=(fU a).1 (w.heap.size+1) 1 (by simp<;>omega);have f:=(fU a).1 (w.heap.size+1+1) 0 (by simp<;>omega);have g:=(fU a).1 (w.heap.size+1+1) 1 (by simp<;>omega);have i:=(fU a).2 (w.heap.size+1+1) 0 (by simp<;>omega);have j:=(fU a).2 (w.heap.size+1+1) 1 (by simp<;>omega);simp[go_sem]at c0 c1 q r f g i j;have k:Hl (Below w.heap.size w s):=Hm (fH (fH below_alloc2 fI) a);have m:=Hm (jy f g);clear h));all_goals(
   refine bodyPost_ret (v:=R) ?_ rfl ⟨rfl,by first|exact(k.o.setCell (by simp<;>omega) _).setCell (by simp<;>omega) _|exact fH below_alloc2 fI⟩;rw[l.o]
   first|(obtain⟨n,p⟩:=m.o;simp[results,Tryz.results195,go_sem,n,p])|simp[results,Tryz.results195,go_sem]
   all_goals(first|(simp[gM,Kd.cells,fits];done)|(simp[gM,Kd.cells,fits];intros;first|assumption|contradiction|simp_all))))
theorem MQ (b:Int)(d c:Bool)(w:World)(u:(b==4)=false):
  Calls Tryz.prog 195 #[.agg #[.int .i64 4,.bool d],.agg #[.int .i64 b,.bool c]] w λe w'=>e=.returned (.tuple #[.agg ((⟨4,true⟩,fits ⟨b,c⟩ 2):Kd×Bool).1.cells.toArray,.bool ((⟨4,true⟩,fits ⟨b,c⟩ 2):Kd×Bool).2])/\Below w.heap.size w w':=by
 have a:=Below.refl (((w.alloc (.cells #[.int .i64 4,.bool d] 170)).alloc (.cells #[.int .i64 b,.bool c] 170)).alloc (.cells #[.int .i64 0,.bool false] 170)).heap.size (((w.alloc (.cells #[.int .i64 4,.bool d] 170)).alloc (.cells #[.int .i64 b,.bool c] 170)).alloc (.cells #[.int .i64 0,.bool false] 170));obtain⟨R,f⟩: ∃R:Value,R=.tuple #[.agg ((⟨4,true⟩,fits ⟨b,c⟩ 2):Kd×Bool).1.cells.toArray,.bool ((⟨4,true⟩,fits ⟨b,c⟩ 2):Kd×Bool).2]:=⟨_,rfl⟩;rw[<-f];have m:=Hm f;clear f;cases d<;>cases c;all_goals(
  go_enter Tryz.func195,Tryz.ntmps195;go_wp2_with (first|(go_at_call 157;refine(lC _ _ _ _).mono ?_;rintro e t ⟨rfl,i⟩;have a:=fH a i;have c0:=(fU a).1 w.heap.size 0 (by simp<;>omega);have c1:=(fU a).1 w.heap.size 1 (by simp<;>omega);have r:=(fU a).1 (w.heap.size+1) 0 (by simp<;>omega);have s:=(fU a).1 (w.heap.size+1) 1 (by simp<;>omega);have g:=(fU a).1 (w.heap.size+1+1) 0 (by simp<;>omega);have h:=(fU a).1 (w.heap.size+1+1) 1 (by simp<;>omega);have j:=(fU a).2 (w.heap.size+1+1) 0 (by simp<;>omega);have k:=(fU a).2 (w.heap.size+1+1) 1 (by simp<;>omega);simp[go_sem]at c0 c1 r s g h j k;have l:Hl (Below w.heap.size w t):=Hm (fH (fH below_alloc2 fI) a);have n:=Hm (jy g h);clear i));all_goals(
   refine bodyPost_ret (v:=R) ?_ rfl ⟨rfl,by first|exact(l.o.setCell (by simp<;>omega) _).setCell (by simp<;>omega) _|exact fH below_alloc2 fI⟩;rw[m.o]
   first|(obtain⟨p,q⟩:=n.o;simp[results,Tryz.results195,go_sem,p,q])|simp[results,Tryz.results195,go_sem]
   all_goals(first|(simp[gM,Kd.cells,fits];done)|(simp[gM,Kd.cells,fits];intros;first|assumption|contradiction|simp_all))))
theorem MN (b c:Bool)(w:World):
  Calls Tryz.prog 195 #[.agg #[.int .i64 0,.bool b],.agg #[.int .i64 4,.bool c]] w λe w'=>e=.returned (.tuple #[.agg ((⟨2,b || c⟩,true):Kd×Bool).1.cells.toArray,.bool ((⟨2,b || c⟩,true):Kd×Bool).2])/\Below w.heap.size w w':=by
 have a:=Below.refl (((w.alloc (.cells #[.int .i64 0,.bool b] 170)).alloc (.cells #[.int .i64 4,.bool c] 170)).alloc (.cells #[.int .i64 0,.bool false] 170)).heap.size (((w.alloc (.cells #[.int .i64 0,.bool b] 170)).alloc (.cells #[.int .i64 4,.bool c] 170)).alloc (.cells #[.int .i64 0,.bool false] 170));obtain⟨R,d⟩: ∃R:Value,R=.tuple #[.agg ((⟨2,b || c⟩,true):Kd×Bool).1.cells.toArray,.bool ((⟨2,b || c⟩,true):Kd×Bool).2]:=⟨_,rfl⟩;rw[<-d];have l:=Hm d;clear d;cases b<;>cases c;all_goals(
  go_enter Tryz.func195,Tryz.ntmps195;go_wp2_with (first|(go_at_call 157;refine(lC _ _ _ _).mono ?_;rintro e s ⟨rfl,h⟩;have a:=fH a h;have c0:=(fU a).1 w.heap.size 0 (by simp<;>omega);have c1:=(fU a).1 w.heap.size 1 (by simp<;>omega);have q:=(fU a).1 (w.heap.size+1) 0 (by simp<;>omega);have r:=(fU a).1 (w.heap.size+1) 1 (by simp<;>omega);have f:=(fU a).1 (w.heap.size+1+1) 0 (by simp<;>omega);have g:=(fU a).1 (w.heap.size+1+1) 1 (by simp<;>omega);have i:=(fU a).2 (w.heap.size+1+1) 0 (by simp<;>omega);have j:=(fU a).2 (w.heap.size+1+1) 1 (by simp<;>omega);simp[go_sem]at c0 c1 q r f g i j;have k:Hl (Below w.heap.size w s):=Hm (fH (fH below_alloc2 fI) a);have m:=Hm (jy f g);clear h));all_goals(
   refine bodyPost_ret (v:=R) ?_ rfl ⟨rfl,by first|exact(k.o.setCell (by simp<;>omega) _).setCell (by simp<;>omega) _|exact fH below_alloc2 fI⟩;rw[l.o]
   first|(obtain⟨n,p⟩:=m.o;simp[results,Tryz.results195,go_sem,n,p])|simp[results,Tryz.results195,go_sem]
   all_goals(first|(simp[gM,Kd.cells,fits];done)|(simp[gM,Kd.cells,fits];intros;first|assumption|contradiction|simp_all))))
theorem MR (b:Int)(c d:Bool)(w:World)(u:(b==4)=false)(x:(b==0)=false):
  Calls Tryz.prog 195 #[.agg #[.int .i64 b,.bool c],.agg #[.int .i64 4,.bool d]] w λe w'=>e=.returned (.tuple #[.agg ((⟨2,true⟩,fits ⟨b,c⟩ 2&&fits ⟨4,d⟩ 2):Kd×Bool).1.cells.toArray,.bool ((⟨2,true⟩,fits ⟨b,c⟩ 2&&fits ⟨4,d⟩ 2):Kd×Bool).2])/\Below w.heap.size w w':=by
 have a:=Below.refl (((w.alloc (.cells #[.int .i64 b,.bool c] 170)).alloc (.cells #[.int .i64 4,.bool d] 170)).alloc (.cells #[.int .i64 0,.bool false] 170)).heap.size (((w.alloc (.cells #[.int .i64 b,.bool c] 170)).alloc (.cells #[.int .i64 4,.bool d] 170)).alloc (.cells #[.int .i64 0,.bool false] 170));obtain⟨R,f⟩: ∃R:Value,R=.tuple #[.agg ((⟨2,true⟩,fits ⟨b,c⟩ 2&&fits ⟨4,d⟩ 2):Kd×Bool).1.cells.toArray,.bool ((⟨2,true⟩,fits ⟨b,c⟩ 2&&fits ⟨4,d⟩ 2):Kd×Bool).2]:=⟨_,rfl⟩;rw[<-f];have m:=Hm f;clear f;cases c<;>cases d;all_goals(
  go_enter Tryz.func195,Tryz.ntmps195;go_wp2_with (first|(go_at_call 157;refine(lC _ _ _ _).mono ?_;rintro e t ⟨rfl,i⟩;have a:=fH a i;have c0:=(fU a).1 w.heap.size 0 (by simp<;>omega);have c1:=(fU a).1 w.heap.size 1 (by simp<;>omega);have r:=(fU a).1 (w.heap.size+1) 0 (by simp<;>omega);have s:=(fU a).1 (w.heap.size+1) 1 (by simp<;>omega);have g:=(fU a).1 (w.heap.size+1+1) 0 (by simp<;>omega);have h:=(fU a).1 (w.heap.size+1+1) 1 (by simp<;>omega);have j:=(fU a).2 (w.heap.size+1+1) 0 (by simp<;>omega);have k:=(fU a).2 (w.heap.size+1+1) 1 (by simp<;>omega);simp[go_sem]at c0 c1 r s g h j k;have l:Hl (Below w.heap.size w t):=Hm (fH (fH below_alloc2 fI) a);have n:=Hm (jy g h);clear i));all_goals(
   refine bodyPost_ret (v:=R) ?_ rfl ⟨rfl,by first|exact(l.o.setCell (by simp<;>omega) _).setCell (by simp<;>omega) _|exact fH below_alloc2 fI⟩;rw[m.o]
   first|(obtain⟨p,q⟩:=n.o;simp[results,Tryz.results195,go_sem,p,q])|simp[results,Tryz.results195,go_sem]
   all_goals(first|(simp[gM,Kd.cells,fits];done)|(simp[gM,Kd.cells,fits];intros;first|assumption|contradiction|simp_all))))
theorem MO (c:Int)(b d:Bool)(w:World)(u:(c==4)=false):
  Calls Tryz.prog 195 #[.agg #[.int .i64 0,.bool b],.agg #[.int .i64 c,.bool d]] w λe w'=>e=.returned (.tuple #[.agg ((⟨2,true⟩,fits ⟨0,b⟩ 2&&fits ⟨c,d⟩ 2):Kd×Bool).1.cells.toArray,.bool ((⟨2,true⟩,fits ⟨0,b⟩ 2&&fits ⟨c,d⟩ 2):Kd×Bool).2])/\Below w.heap.size w w':=by
 have a:=Below.refl (((w.alloc (.cells #[.int .i64 0,.bool b] 170)).alloc (.cells #[.int .i64 c,.bool d] 170)).alloc (.cells #[.int .i64 0,.bool false] 170)).heap.size (((w.alloc (.cells #[.int .i64 0,.bool b] 170)).alloc (.cells #[.int .i64 c,.bool d] 170)).alloc (.cells #[.int .i64 0,.bool false] 170));obtain⟨R,f⟩: ∃R:Value,R=.tuple #[.agg ((⟨2,true⟩,fits ⟨0,b⟩ 2&&fits ⟨c,d⟩ 2):Kd×Bool).1.cells.toArray,.bool ((⟨2,true⟩,fits ⟨0,b⟩ 2&&fits ⟨c,d⟩ 2):Kd×Bool).2]:=⟨_,rfl⟩;rw[<-f];have m:=Hm f;clear f;cases b<;>cases d;all_goals(
  go_enter Tryz.func195,Tryz.ntmps195;go_wp2_with (first|(go_at_call 157;refine(lC _ _ _ _).mono ?_;rintro e t ⟨rfl,i⟩;have a:=fH a i;have c0:=(fU a).1 w.heap.size 0 (by simp<;>omega);have c1:=(fU a).1 w.heap.size 1 (by simp<;>omega);have r:=(fU a).1 (w.heap.size+1) 0 (by simp<;>omega);have s:=(fU a).1 (w.heap.size+1) 1 (by simp<;>omega);have g:=(fU a).1 (w.heap.size+1+1) 0 (by simp<;>omega);have h:=(fU a).1 (w.heap.size+1+1) 1 (by simp<;>omega);have j:=(fU a).2 (w.heap.size+1+1) 0 (by simp<;>omega);have k:=(fU a).2 (w.heap.size+1+1) 1 (by simp<;>omega);simp[go_sem]at c0 c1 r s g h j k;have l:Hl (Below w.heap.size w t):=Hm (fH (fH below_alloc2 fI) a);have n:=Hm (jy g h);clear i));all_goals(
   refine bodyPost_ret (v:=R) ?_ rfl ⟨rfl,by first|exact(l.o.setCell (by simp<;>omega) _).setCell (by simp<;>omega) _|exact fH below_alloc2 fI⟩;rw[m.o]
   first|(obtain⟨p,q⟩:=n.o;simp[results,Tryz.results195,go_sem,p,q])|simp[results,Tryz.results195,go_sem]
   all_goals(first|(simp[gM,Kd.cells];done)|(simp[gM,Kd.cells];intros;first|assumption|contradiction|simp_all))))
theorem MS (b:Int)(d:Int)(c f:Bool)(w:World)(x:(b==4)=false)(y:(d==4)=false)(z:(b==0)=false):
  Calls Tryz.prog 195 #[.agg #[.int .i64 b,.bool c],.agg #[.int .i64 d,.bool f]] w λe w'=>e=.returned (.tuple #[.agg ((⟨2,true⟩,fits ⟨b,c⟩ 2&&fits ⟨d,f⟩ 2):Kd×Bool).1.cells.toArray,.bool ((⟨2,true⟩,fits ⟨b,c⟩ 2&&fits ⟨d,f⟩ 2):Kd×Bool).2])/\Below w.heap.size w w':=by
 have a:=Below.refl (((w.alloc (.cells #[.int .i64 b,.bool c] 170)).alloc (.cells #[.int .i64 d,.bool f] 170)).alloc (.cells #[.int .i64 0,.bool false] 170)).heap.size (((w.alloc (.cells #[.int .i64 b,.bool c] 170)).alloc (.cells #[.int .i64 d,.bool f] 170)).alloc (.cells #[.int .i64 0,.bool false] 170));obtain⟨R,g⟩: ∃R:Value,R=.tuple #[.agg ((⟨2,true⟩,fits ⟨b,c⟩ 2&&fits ⟨d,f⟩ 2):Kd×Bool).1.cells.toArray,.bool ((⟨2,true⟩,fits ⟨b,c⟩ 2&&fits ⟨d,f⟩ 2):Kd×Bool).2]:=⟨_,rfl⟩;rw[<-g];have n:=Hm g;clear g;cases c<;>cases f;all_goals(
  go_enter Tryz.func195,Tryz.ntmps195;go_wp2_with (first|(go_at_call 157;refine(lC _ _ _ _).mono ?_;rintro e u ⟨rfl,j⟩;have a:=fH a j;have c0:=(fU a).1 w.heap.size 0 (by simp<;>omega);have c1:=(fU a).1 w.heap.size 1 (by simp<;>omega);have s:=(fU a).1 (w.heap.size+1) 0 (by simp<;>omega);have t:=(fU a).1 (w.heap.size+1) 1 (by simp<;>omega);have h:=(fU a).1 (w.heap.size+1+1) 0 (by simp<;>omega);have i:=(fU a).1 (w.heap.size+1+1) 1 (by simp<;>omega);have k:=(fU a).2 (w.heap.size+1+1) 0 (by simp<;>omega);have l:=(fU a).2 (w.heap.size+1+1) 1 (by simp<;>omega);simp[go_sem]at c0 c1 s t h i k l;have m:Hl (Below w.heap.size w u):=Hm (fH (fH below_alloc2 fI) a);have p:=Hm (jy h i);clear j));all_goals(
   refine bodyPost_ret (v:=R) ?_ rfl ⟨rfl,by first|exact(m.o.setCell (by simp<;>omega) _).setCell (by simp<;>omega) _|exact fH below_alloc2 fI⟩;rw[n.o]
   first|(obtain⟨q,r⟩:=p.o;simp[results,Tryz.results195,go_sem,q,r])|simp[results,Tryz.results195,go_sem]
   all_goals(first|(simp[gM,Kd.cells];done)|(simp[gM,Kd.cells];intros;first|assumption|contradiction|simp_all))))
def lN (r:Kd×Bool)(e:Ending):Prop:= ∃k:Kd,e=.returned (.tuple #[.agg k.cells.toArray,.bool r.2])/\(r.2=true->k=r.1)
theorem lN.mk {r s:Kd×Bool}{e:Ending}(h:e=.returned (.tuple #[.agg s.1.cells.toArray,.bool s.2]))(b:s.2=r.2)(a:r.2=true->s.1=r.1):lN r e:=⟨s.1,by rw[h,b],a⟩
theorem yT (g i:Int)(b c:Bool)(w:World):
  Calls Tryz.prog 195 #[.agg #[.int .i64 g,.bool b],.agg #[.int .i64 i,.bool c]] w λe w'=>lN (gM 5 ⟨g,b⟩ ⟨i,c⟩) e/\Below w.heap.size w w':=by
 by_cases d:g=4
 ·subst d;by_cases a:i=4
  ·subst a;exact(MP b c w).mono λe w' h=>⟨lN.mk h.1 (by simp[gM,fits]) (by simp[gM,fits]),h.2⟩
  ·exact(MQ i b c w (by simpa using a)).mono λe w' h=>⟨lN.mk h.1 (by simp[gM,a]) (by simp[gM,a]),h.2⟩
 ·by_cases a:i=4
  ·subst a;by_cases f:g=0
   ·subst f;exact(MN b c w).mono λe w' h=>⟨lN.mk h.1 (by simp[gM,fits]) (by simp[gM,fits]),h.2⟩
   ·exact(MR g b c w (by simpa using d) (by simpa using f)).mono λe w' h=>⟨lN.mk h.1 (by simp[gM,fits,d,f]) (by simp[gM,fits,d,f]),h.2⟩
  ·by_cases f:g=0
   ·subst f;exact(MO i b c w (by simpa using a)).mono λe w' h=>⟨lN.mk h.1 (by simp[gM,a]) (by simp[gM,a]),h.2⟩
   exact(MS g i b c w (by simpa using d) (by simpa using a) (by simpa using f)).mono λe w' h=>⟨lN.mk h.1 (by simp[gM,d,a]) (by simp[gM,d,a]),h.2⟩
end Go.Proofs.YtopjjlmfilgngaaGreatDoor
