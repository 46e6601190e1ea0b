/-
  scalar.typed: it returns opKd, operator by operator. (Printed by gen_typed.py.)
-/
import Derived.Test.YtopjjlmfilgngaaGreatDoorGal
import Derived.Test.YtopjjlmfilgngaaGreatDoorGah
namespace Go.Proofs.YtopjjlmfilgngaaGreatDoor
set_option maxHeartbeats 4000000
set_option maxRecDepth 100000
open Go.RowKit
set_option linter.unusedSimpArgs false
set_option linter.unusedVariables false
theorem iG {w:World}{g:Nat}{u0 u1:Value}(h0:w.cell? ⟨g,0,none⟩=some u0)(h1:w.cell? ⟨g,1,none⟩=some u1):
  (∀a,(w.setCell ⟨g,0,none⟩ a).cell? ⟨g,0,none⟩=some a)/\(∀a b,((w.setCell ⟨g,0,none⟩ a).setCell ⟨g,1,none⟩ b).cell? ⟨g,1,none⟩=some b):=
 ⟨λa=>bC h0,λa b=>bC (af h1 (.inr (by omega)))⟩
theorem vR {w:World}{b off n c k:Nat}{xs:List Kd}(h:In w (some ⟨b,off,none⟩) n c xs)(hk:k<n){x:Kd}(hx:xs[k]?=some x):
  b<w.heap.size/\w.cell? ⟨b,off+k*2,none⟩=some (.int .i64 x.kind)/\w.cell? ⟨b,off+k*2+1,none⟩=some (.bool x.null):=by
 obtain ⟨b',off',y,e,hb,HY,f0,f1,f2⟩:=h.kd hk;injection e with e;injection e with e1 e2;subst e1 e2;have:=(bJ HY.out).1;rw[hx]at this;injection this with this;subst this;exact ⟨hb,f0,f1⟩
theorem yQ (op:Int)(hop:op=10\/op=11\/op=12\/op=13\/op=18)(kd nu ar:Int)(st nm:ByteArray)(w:World)(b off:Nat)(c:Nat)(x:Kd)(y:Kd)(hx:In w (some ⟨b,off,none⟩) 2 c ([x,y]:List Kd)):
  Calls Tryz.prog 212 #[.agg (fG op kd nu st nm ar),.slice (some ⟨b,off,none⟩) 2 c] w λe w'=>e=.returned (.tuple #[.agg (aQ ⟨op,⟨kd,nu,st⟩,nm,ar⟩ ([x,y]:List Kd)).1.cells.toArray,.bool (aQ ⟨op,⟨kd,nu,st⟩,nm,ar⟩ ([x,y]:List Kd)).2])/\Below w.heap.size w w':=by
 obtain ⟨hB,x0,x1⟩:=vR hx (show 0<2 by omega) (x:=x) rfl;obtain ⟨xk,xn⟩:=x;obtain ⟨hB,y0,y1⟩:=vR hx (show 1<2 by omega) (x:=y) rfl;obtain ⟨yk,yn⟩:=y;simp only[Nat.zero_mul,Nat.one_mul,Nat.add_zero,Nat.reduceMul]at x0 x1 y0 y1;simp only[fG];obtain ⟨R,hR⟩: ∃R:Value,R=.tuple #[.agg (aQ ⟨op,⟨kd,nu,st⟩,nm,ar⟩ ([⟨xk,xn⟩,⟨yk,yn⟩]:List Kd)).1.cells.toArray,.bool (aQ ⟨op,⟨kd,nu,st⟩,nm,ar⟩ ([⟨xk,xn⟩,⟨yk,yn⟩]:List Kd)).2]:=⟨_,rfl⟩;rw[<-hR];have HR:=hide hR;clear hR;rcases hop with rfl|rfl|rfl|rfl|rfl;all_goals (
  go_enter Tryz.func212,Tryz.ntmps212;go_wp2_with (go_at_call 237;refine (pF _ _ _ _ _ (hx.below below_alloc2)).mono ?_;rintro e w0 ⟨rfl,hb0⟩;have hacc:=aa below_alloc2 hb0;have hx2:=hb0;obtain ⟨hc0,hf0⟩:=aK hb0;have HS:=hide (iG (ah (b:=w.heap.size+1) (o:=0) (v:=.int .i64 0) hx2 (by simp) (by simp[go_sem])) (ah (b:=w.heap.size+1) (o:=1) (v:=.bool false) hx2 (by simp) (by simp[go_sem])));have xa:=ah hacc hB x0;have xb:=ah hacc hB x1;have ya:=ah hacc hB y0;have yb:=ah hacc hB y1;clear hb0);have hB0:=Nat.lt_of_lt_of_le hB hacc.size;go_region_held3 (λV=>V.cell? ⟨b,off,none⟩=some (.int .i64 xk)/\V.cell? ⟨b,off+1,none⟩=some (.bool xn)/\V.cell? ⟨b,off+2,none⟩=some (.int .i64 yk)/\V.cell? ⟨b,off+2+1,none⟩=some (.bool yn)) (first|exact ⟨xa,xb,ya,yb⟩|(have hq:=au hb1;exact ⟨ah hq hB0 xa,ah hq hB0 xb,ah hq hB0 ya,ah hq hB0 yb⟩)) (first|(go_at_call 240;refine (xy _ _ _ _ _).mono ?_;rintro e w1 ⟨rfl,hb1⟩));have hq:=au hb1;have hacc:=aa hacc hq;have hx2:=aa hx2 hq;clear hq hb1;obtain ⟨hc1,hf1⟩:=aK hx2;have HS:=hide (iG (ah (b:=w.heap.size+1) (o:=0) (v:=.int .i64 0) hx2 (by simp) (by simp[go_sem])) (ah (b:=w.heap.size+1) (o:=1) (v:=.bool false) hx2 (by simp) (by simp[go_sem])));have xa:=ah hacc hB x0;have xb:=ah hacc hB x1;have ya:=ah hacc hB y0;have yb:=ah hacc hB y1;go_wp2;all_goals
   refine bodyPost_ret (v:=R) ?_ rfl ?_
   ·obtain ⟨S0,S1⟩:=HS.out;rw[HR.out];simp[results,Tryz.results212,go_sem,S0,S1];go_light
    (try simp_all[aQ,jY,dC,Kd.cells])
   ·refine ⟨rfl,?_⟩
    first|exact hacc|exact (hacc.setCell (by simp) _).setCell (by simp) _)
end Go.Proofs.YtopjjlmfilgngaaGreatDoor
