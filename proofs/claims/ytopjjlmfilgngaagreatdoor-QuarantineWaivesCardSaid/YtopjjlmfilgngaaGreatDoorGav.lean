/-
  warehouseref9.node: it returns nodeKd. (Printed by gen_node.py.) warehouseref9.value: it returns nodeV. (Printed by gen_val9.py.)
-/
import Derived.Test.YtopjjlmfilgngaaGreatDoorGar
import Derived.Test.YtopjjlmfilgngaaGreatDoorTypG
import Derived.Test.YtopjjlmfilgngaaGreatDoorGat
import Derived.Test.YtopjjlmfilgngaaGreatDoorGau
import Derived.Test.YtopjjlmfilgngaaGreatDoorArB
namespace Go.Proofs.YtopjjlmfilgngaaGreatDoor
set_option maxHeartbeats 4000000
set_option maxRecDepth 100000
open Go.RowKit
set_option linter.unusedSimpArgs false
set_option linter.unusedVariables false
structure Zk (w:World) (g:Nat):Prop where
 c0:w.cell? ⟨g,0,none⟩=some (.int .i64 0)
 c1:w.cell? ⟨g,1,none⟩=some (.bool false)
 f0:w.frozen? ⟨g,0,none⟩=false
 f1:w.frozen? ⟨g,1,none⟩=false
 lt:g<w.heap.size
theorem Zk.below {w w':World}{g:Nat}(h:Zk w g)(hb:Below w.heap.size w w'):Zk w' g:=
 ⟨ah hb h.lt h.c0,ah hb h.lt h.c1,((au hb).2 _ _ h.lt).trans h.f0,((au hb).2 _ _ h.lt).trans h.f1,by have:=hb.size;have:=h.lt;omega⟩
theorem Zk.made (w:World)(t:TypeId):Zk (w.alloc (.cells #[.int .i64 0,.bool false] t)) w.heap.size:=by
 constructor <;> simp[go_sem]
theorem Zk.far {w:World}{g g':Nat}(h:Zk w g)(hne:g≠g')(a b:Value):Zk ((w.setCell ⟨g',0,none⟩ a).setCell ⟨g',1,none⟩ b) g:=
 ⟨ag (ag h.c0 (.inl hne)) (.inl hne),ag (ag h.c1 (.inl hne)) (.inl hne),by have:=h.f0;simp[this],by have:=h.f1;simp[this],by have:=h.lt;simpa using this⟩
theorem jM {w:World}{g:Nat}{u0 u1 v0 v1:Value}(h0:w.cell? ⟨g,0,none⟩=some u0)(h1:w.cell? ⟨g,1,none⟩=some u1):
  ∀(j:Nat) (v:Value),[v0,v1][j]?=some v->((w.setCell ⟨g,0,none⟩ v0).setCell ⟨g,1,none⟩ v1).cell? ⟨g,j,none⟩=some v:=by
 intro j v hv
 match j,hv with
 | 0,hv=>simp at hv;subst hv;exact ag (cO h0) (.inr (by omega))
 | 1,hv=>simp at hv;subst hv;exact cO (ag h1 (.inr (by omega)))
theorem fq {B g:Nat}{w w':World}(h:Below B w w')(hg:B<=g)(u v:Value):Below B w ((w'.setCell ⟨g,0,none⟩ u).setCell ⟨g,1,none⟩ v):=(h.setCell hg _).setCell hg _
theorem Zk.drew {w:World}{g:Nat}(h:Zk w g):Zk w.drew g:=⟨h.c0,h.c1,h.f0,h.f1,h.lt⟩
theorem OI (w:World)(op kd nu ar:Int)(st nm:ByteArray): ∃w0,w0=(((w.alloc (.cells #[.int .i64 op,.int .i64 kd,.int .i64 nu,.string st,.string nm,.int .i64 ar] 89)).alloc (.cells #[.int .i64 0,.bool false] 170)).alloc (.cells #[.int .i64 0,.bool false] 170))/\Hid (Zk w0 (w.heap.size+1))/\Hid (Zk w0 (w.heap.size+1+1))/\
  w0.cell? ⟨w.heap.size,0,none⟩=some (.int .i64 op)/\w0.cell? ⟨w.heap.size,1,none⟩=some (.int .i64 kd)/\w0.cell? ⟨w.heap.size,2,none⟩=some (.int .i64 nu)/\w0.cell? ⟨w.heap.size,3,none⟩=some (.string st)/\w0.cell? ⟨w.heap.size,4,none⟩=some (.string nm)/\w0.cell? ⟨w.heap.size,5,none⟩=some (.int .i64 ar)/\Below w.heap.size w w0:=
 ⟨_,rfl,hide (by have:=(Zk.made (w.alloc (.cells #[.int .i64 op,.int .i64 kd,.int .i64 nu,.string st,.string nm,.int .i64 ar] 89)) 170).below (w':=(((w.alloc (.cells #[.int .i64 op,.int .i64 kd,.int .i64 nu,.string st,.string nm,.int .i64 ar] 89)).alloc (.cells #[.int .i64 0,.bool false] 170)).alloc (.cells #[.int .i64 0,.bool false] 170))) ae;simpa using this),hide (by have:=Zk.made ((w.alloc (.cells #[.int .i64 op,.int .i64 kd,.int .i64 nu,.string st,.string nm,.int .i64 ar] 89)).alloc (.cells #[.int .i64 0,.bool false] 170)) 170;simpa using this),by simp[go_sem],by simp[go_sem],by simp[go_sem],by simp[go_sem],by simp[go_sem],by simp[go_sem],below_alloc3⟩
theorem ML (xk yk:Int)(xn yn:Bool)(w:World):
  Calls Tryz.prog 160 #[.int .i64 5,.agg #[.int .i64 xk,.bool xn],.agg #[.int .i64 yk,.bool yn]] w λe w'=>iH (aM 5 ⟨xk,xn⟩ ⟨yk,yn⟩) e/\Below w.heap.size w w':=by
 have hx2:=Below.refl (((w.alloc (.cells #[.int .i64 xk,.bool xn] 170)).alloc (.cells #[.int .i64 yk,.bool yn] 170)).alloc (.cells #[.int .i64 0,.bool false] 170)).heap.size (((w.alloc (.cells #[.int .i64 xk,.bool xn] 170)).alloc (.cells #[.int .i64 yk,.bool yn] 170)).alloc (.cells #[.int .i64 0,.bool false] 170));cases xn <;> cases yn;all_goals (
  go_enter Tryz.func160,Tryz.ntmps160;go_wp2_with (go_at_call 195;refine (yN _ _ _ _ _).mono ?_;rintro e w1 ⟨⟨⟨kk,kn⟩,rfl,hk⟩,hb1⟩;have HK:=hide hk;have hx2:=aa hx2 hb1;have d0:=(au hx2).1 (w.heap.size+1+1) 0 (by simp <;> omega);have d1:=(au hx2).1 (w.heap.size+1+1) 1 (by simp <;> omega);have F0:=(au hx2).2 (w.heap.size+1+1) 0 (by simp <;> omega);have F1:=(au hx2).2 (w.heap.size+1+1) 1 (by simp <;> omega);simp[go_sem]at d0 d1 F0 F1;simp only[Kd.cells];have HB:Hid (Below w.heap.size w w1):=hide (aa (aa below_alloc2 ae) hx2);have HS:=hide (dK d0 d1);clear hb1 hk hx2);refine bodyPost_ret (v:=.tuple #[.agg (Kd.cells ⟨kk,kn⟩).toArray,.bool (aM 5 ⟨xk,_⟩ ⟨yk,_⟩).2]) ?_ rfl ⟨⟨_,rfl,HK.out⟩,(HB.out.setCell (by simp <;> omega) _).setCell (by simp <;> omega) _⟩;obtain ⟨S0,S1⟩:=HS.out;simp[results,Tryz.results160,go_sem,S0,S1,Kd.cells])
theorem GR (op:Int)(hop:(4<=op/\op<=15)\/op=18)(xk yk:Int)(xn yn:Bool)(w:World):
  Calls Tryz.prog 160 #[.int .i64 op,.agg #[.int .i64 xk,.bool xn],.agg #[.int .i64 yk,.bool yn]] w λe w'=>iH (aM op ⟨xk,xn⟩ ⟨yk,yn⟩) e/\Below w.heap.size w w':=by
 obtain rfl|rfl|rfl|rfl|rfl|rfl|rfl|rfl|rfl|rfl|rfl|rfl|rfl:op=4\/op=5\/op=6\/op=7\/op=8\/op=9\/op=10\/op=11\/op=12\/op=13\/op=14\/op=15\/op=18:=by omega
 ·by_cases h:xk=4
  ·subst h;exact (JW yk xn yn w).mono λe w' h=>⟨iH.mk h.1 rfl (λ_=>rfl),h.2⟩
  ·exact (JV xk yk xn yn w (by simpa using h) h).mono λe w' h=>⟨iH.mk h.1 rfl (λ_=>rfl),h.2⟩
 ·exact ML xk yk xn yn w
 ·exact (uH 6 (by simp) xk yk xn yn w).mono λe w' h=>⟨iH.mk h.1 rfl (λ_=>rfl),h.2⟩
 ·exact (uH 7 (by simp) xk yk xn yn w).mono λe w' h=>⟨iH.mk h.1 rfl (λ_=>rfl),h.2⟩
 ·exact (uH 8 (by simp) xk yk xn yn w).mono λe w' h=>⟨iH.mk h.1 rfl (λ_=>rfl),h.2⟩
 ·exact (uH 9 (by simp) xk yk xn yn w).mono λe w' h=>⟨iH.mk h.1 rfl (λ_=>rfl),h.2⟩
 ·exact (uI 10 (by simp) xk yk xn yn w).mono λe w' h=>⟨iH.mk h.1 rfl (λ_=>rfl),h.2⟩
 ·exact (uI 11 (by simp) xk yk xn yn w).mono λe w' h=>⟨iH.mk h.1 rfl (λ_=>rfl),h.2⟩
 ·exact (uI 12 (by simp) xk yk xn yn w).mono λe w' h=>⟨iH.mk h.1 rfl (λ_=>rfl),h.2⟩
 ·exact (uI 13 (by simp) xk yk xn yn w).mono λe w' h=>⟨iH.mk h.1 rfl (λ_=>rfl),h.2⟩
 ·exact (yG 14 (by simp) xk yk xn yn w).mono λe w' h=>⟨iH.mk h.1 rfl (λ_=>rfl),h.2⟩
 ·exact (yG 15 (by simp) xk yk xn yn w).mono λe w' h=>⟨iH.mk h.1 rfl (λ_=>rfl),h.2⟩
 ·exact (yG 18 (by simp) xk yk xn yn w).mono λe w' h=>⟨iH.mk h.1 rfl (λ_=>rfl),h.2⟩
theorem FW (op kd nu ar:Int)(st nm:ByteArray)(w:World)(A1:Option Addr)(n1 c1:Nat)(cols:List Col)(hc:In w A1 n1 c1 cols)(A2:Option Addr)(n2 c2:Nat)(zs:List Zone)(hz:In w A2 n2 c2 zs)(b off c:Nat)(xk:Int)(xn:Bool)(yk:Int)(yn:Bool)(hx:In w (some ⟨b,off,none⟩) 2 c ([⟨xk,xn⟩,⟨yk,yn⟩]:List Kd))(hop:(4<=op/\op<=15)\/op=18):
  Calls Tryz.prog 132 #[.agg #[.int .i64 op,.int .i64 kd,.int .i64 nu,.string st,.string nm,.int .i64 ar],.slice (some ⟨b,off,none⟩) 2 c,.slice A1 n1 c1,.slice A2 n2 c2] w λe w'=>e=.returned (.tuple #[.agg (bC cols zs ⟨op,⟨kd,nu,st⟩,nm,ar⟩ ([⟨xk,xn⟩,⟨yk,yn⟩]:List Kd)).2.cells.toArray,.int .i64 (bC cols zs ⟨op,⟨kd,nu,st⟩,nm,ar⟩ ([⟨xk,xn⟩,⟨yk,yn⟩]:List Kd)).1])/\Below w.heap.size w w':=by
 rcases Bool.eq_false_or_eq_true ((aM op ⟨xk,xn⟩ ⟨yk,yn⟩).2) with hok|hok;all_goals
  obtain ⟨hB,x0,x1⟩:=uZ hx (show 0<2 by omega) (x:=⟨xk,xn⟩) rfl;obtain ⟨hB,y0,y1⟩:=uZ hx (show 1<2 by omega) (x:=⟨yk,yn⟩) rfl;simp only[Nat.zero_mul,Nat.one_mul,Nat.add_zero,Nat.reduceMul]at x0 x1 y0 y1
  first|(have:=(show (aM op ⟨xk,xn⟩ ⟨yk,yn⟩).2=true from hok);have HN:Hid (bC cols zs ⟨op,⟨kd,nu,st⟩,nm,ar⟩ ([⟨xk,xn⟩,⟨yk,yn⟩]:List Kd)=(0,(aM op ⟨xk,xn⟩ ⟨yk,yn⟩).1)):=hide (by rw[bC,if_neg (by simp only;omega),if_neg (by simp only;omega),if_neg (λh=>absurd h.1 (by simp only;omega))];rw[if_neg (show ¬(di (⟨op,⟨kd,nu,st⟩,nm,ar⟩:Node) ([⟨xk,xn⟩,⟨yk,yn⟩]:List Kd)).2=false from λh=>by have h2:(di (⟨op,⟨kd,nu,st⟩,nm,ar⟩:Node) ([⟨xk,xn⟩,⟨yk,yn⟩]:List Kd)).2=true:=hok;rw[h2]at h;cases h)];rfl))|(have HN:Hid (bC cols zs ⟨op,⟨kd,nu,st⟩,nm,ar⟩ ([⟨xk,xn⟩,⟨yk,yn⟩]:List Kd)=(7,default)):=hide (by rw[bC,if_neg (by simp only;omega),if_neg (by simp only;omega),if_neg (λh=>absurd h.1 (by simp only;omega))];rw[if_pos (show (di (⟨op,⟨kd,nu,st⟩,nm,ar⟩:Node) ([⟨xk,xn⟩,⟨yk,yn⟩]:List Kd)).2=false from hok)]))
  have e0:(op==0)=false:=by simp;omega
  have e1:(op==1)=false:=by simp;omega
  have e17:(op==17)=false:=by simp;omega
  have e20:(op==20)=false:=by simp;omega
  have e21:(op==21)=false:=by simp;omega
  have LB:=hide hop;clear hop;go_enter Tryz.func132,Tryz.ntmps132;go_upto_region 5 with (fail);obtain ⟨w0,hw0,R,Q,N0,N1, -, -,N4, -,hb0⟩:=OI w op kd nu ar st nm;rw[<-hw0];clear hw0;have hn0:w.heap.size<w0.heap.size:=Nat.lt_trans (show w.heap.size<w.heap.size+1 by omega) R.out.lt;have hnq:¬w.heap.size=w.heap.size+1+1:=by omega
  have hrq:w.heap.size+1≠w.heap.size+1+1:=by omega
  have hB0:b<w0.heap.size:=by have:=hb0.size;omega
  have hne:¬b=w.heap.size+1+1:=by omega
  have x0:=ah hb0 hB x0;have x1:=ah hb0 hB x1;have y0:=ah hb0 hB y0;have y1:=ah hb0 hB y1;go_region_held3 (λV=>V.cell? ⟨w.heap.size,0,none⟩=some (.int .i64 op)/\V.cell? ⟨b,off,none⟩=some (.int .i64 xk)/\V.cell? ⟨b,off+1,none⟩=some (.bool xn)/\V.cell? ⟨b,off+2,none⟩=some (.int .i64 yk)/\V.cell? ⟨b,off+2+1,none⟩=some (.bool yn)) (first|exact ⟨N0,x0,x1,y0,y1⟩|exact ⟨N0',x0',x1',y0',y1'⟩|exact ⟨ag (ag N0' (.inl hnq)) (.inl hnq),ag (ag x0' (.inl hne)) (.inl hne),ag (ag x1' (.inl hne)) (.inl hne),ag (ag y0' (.inl hne)) (.inl hne),ag (ag y1' (.inl hne)) (.inl hne)⟩|exact ⟨ag (ag N0 (.inl hnq)) (.inl hnq),ag (ag x0 (.inl hne)) (.inl hne),ag (ag x1 (.inl hne)) (.inl hne),ag (ag y0 (.inl hne)) (.inl hne),ag (ag y1 (.inl hne)) (.inl hne)⟩) (first|(go_at_call 160;refine (GR op LB.out xk yk xn yn _).mono ?_;rintro e w1 ⟨⟨⟨kk,kn⟩,rfl,hk⟩,hb1⟩;have HK:=hide hk;clear hk;rw[hok];simp only[Kd.cells];have hq:=aj hb1;have N0':=ah hq hn0 N0;have x0':=ah hq hB0 x0;have x1':=ah hq hB0 x1;have y0':=ah hq hB0 y0;have y1':=ah hq hB0 y1;have R:=hide (R.out.below hq);have Q:=hide (Q.out.below hq);have hb0:=aa hb0 hq;clear hb1;obtain ⟨q0,q1,p0,p1,_⟩:=Q.out;obtain ⟨r0,r1,s0,s1,_⟩:=R.out));obtain ⟨w4,hw4⟩: ∃w4,w4=(w1.setCell ⟨w.heap.size+1+1,0,none⟩ (.int .i64 kk)).setCell ⟨w.heap.size+1+1,1,none⟩ (.bool kn):=⟨_,rfl⟩;have R:Hid (Zk w4 (w.heap.size+1)):=hide (by rw[hw4];exact R.out.far hrq _ _);have u0:w4.cell? ⟨w.heap.size+1+1,0,none⟩=some (.int .i64 kk):=by rw[hw4];exact jM Q.out.c0 Q.out.c1 0 _ rfl
  have u1:w4.cell? ⟨w.heap.size+1+1,1,none⟩=some (.bool kn):=by rw[hw4];exact jM Q.out.c0 Q.out.c1 1 _ rfl
  have hb0:Below w.heap.size w w4:=by rw[hw4];exact fq hb0 (by omega) _ _
  rw[<-hw4];clear hw4 Q;obtain ⟨r0,r1,s0,s1,_⟩:=R.out;go_wp2
  first|(have:=(show (aM op ⟨xk,xn⟩ ⟨yk,yn⟩).2=true from hok);refine bodyPost_ret (v:=.tuple #[.agg (Kd.cells ⟨kk,kn⟩).toArray,.int .i64 0]) (bS (cs:=Kd.cells ⟨kk,kn⟩) rfl _ _ (w.heap.size+1) _ _ rfl rfl (jM R.out.c0 R.out.c1) Tryz.underlying170 rfl (by kernel_rfl)) rfl ⟨by rw[HN.out,<-HK.out hok],fq hb0 (by omega) _ _⟩)|(refine bodyPost_ret (v:=.tuple #[.agg (Kd.cells ⟨0,false⟩).toArray,.int .i64 7]) (bS (cs:=Kd.cells ⟨0,false⟩) rfl _ _ (w.heap.size+1) _ _ rfl rfl (jM R.out.c0 R.out.c1) Tryz.underlying170 rfl (by kernel_rfl)) rfl ⟨by rw[HN.out];rfl,fq hb0 (by omega) _ _⟩)
theorem TT (kd nu ar:Int)(st nm:ByteArray)(w:World)(A1:Option Addr)(n1 c1:Nat)(cols:List Col)(hc:In w A1 n1 c1 cols)(A2:Option Addr)(n2 c2:Nat)(zs:List Zone)(hz:In w A2 n2 c2 zs)(A:Option Addr)(m c:Nat)(xs:List Kd):
  Calls Tryz.prog 132 #[.agg #[.int .i64 1,.int .i64 kd,.int .i64 nu,.string st,.string nm,.int .i64 ar],.slice A m c,.slice A1 n1 c1,.slice A2 n2 c2] w λe w'=>e=.returned (.tuple #[.agg (bC cols zs ⟨1,⟨kd,nu,st⟩,nm,ar⟩ xs).2.cells.toArray,.int .i64 (bC cols zs ⟨1,⟨kd,nu,st⟩,nm,ar⟩ xs).1])/\Below w.heap.size w w':=by
 have h64:=hc.le;go_enter Tryz.func132,Tryz.ntmps132;go_wp2_with fail;obtain ⟨w0,hw0,R,Q,N0,N1, -, -,N4, -,hb0⟩:=OI w 1 kd nu ar st nm;rw[<-hw0];clear hw0;have hn0:w.heap.size<w0.heap.size:=Nat.lt_trans (show w.heap.size<w.heap.size+1 by omega) R.out.lt;have hnq:¬w.heap.size=w.heap.size+1+1:=by omega
 have hrq:w.heap.size+1≠w.heap.size+1+1:=by omega
 refine (oU _ _ _ _ cols (hc.below hb0) nm).mono ?_;rintro e w1 ⟨rfl,rfl⟩;obtain ⟨q0,q1,p0,p1,_⟩:=Q.out;obtain ⟨r0,r1,s0,s1,_⟩:=R.out;rcases iB nm cols 0 with hr|⟨hr1,hr2⟩
 ·have HN:Hid (bC cols zs ⟨1,⟨kd,nu,st⟩,nm,ar⟩ xs=(5,default)):=hide (by rw[bC,if_pos rfl,if_pos (by simp only;rw[index,hr];omega)]);rw[show index cols nm= -1 from hr];clear hr;go_wp2;refine bodyPost_ret (v:=.tuple #[.agg (Kd.cells ⟨0,false⟩).toArray,.int .i64 5]) (bS (cs:=Kd.cells ⟨0,false⟩) rfl _ _ (w.heap.size+1) _ _ rfl rfl (jM R.out.c0 R.out.c1) Tryz.underlying170 rfl (by kernel_rfl)) rfl ⟨by rw[HN.out];rfl,fq hb0 (by omega) _ _⟩
 ·obtain ⟨j,hj⟩: ∃j:Nat,index cols nm=(j:Int):=⟨(index cols nm).toNat,by rw[index];omega⟩;have hjn:j<n1:=by have:=hc.len;rw[index]at hj;omega
  obtain ⟨b',off',y,rfl,hB',HY,v0,v1,v2,Uc⟩:=hc.col hjn;have v1:=ah hb0 hB' v1;have v2:=ah hb0 hB' v2;have hne:¬b'=w.heap.size+1+1:=by omega
  have HN:Hid (bC cols zs ⟨1,⟨kd,nu,st⟩,nm,ar⟩ xs=(0,⟨y.kind,y.nullable⟩)):=hide (by
   have hy:cols.getD (index cols nm).toNat default=y:=by rw[hj,Int.toNat_natCast,List.getD,(bX HY.out).1];rfl
   rw[bC,if_pos rfl,if_neg (by simp only;rw[hj];omega)];simp only;rw[hy])
  have k0:(0:Int)<=(j:Int):=by omega
  have k1:(j:Int)<(n1:Int):=by omega
  rw[hj];clear hr1 hr2 hj;go_wp2;go_region_held3 (λV=>V.cell? ⟨b',off'+j*3+1,none⟩=some (.int .i64 y.kind)/\V.cell? ⟨b',off'+j*3+2,none⟩=some (.bool y.nullable)) (first|exact ⟨v1,v2⟩|exact ⟨ag (ag v1 (.inl hne)) (.inl hne),ag (ag v2 (.inl hne)) (.inl hne)⟩) (first|fail);obtain ⟨w4,hw4⟩: ∃w4,w4=((w0.setCell ⟨w.heap.size+1+1,0,none⟩ (.int .i64 y.kind)).setCell ⟨w.heap.size+1+1,1,none⟩ (.bool y.nullable)).drew:=⟨_,rfl⟩;have R:Hid (Zk w4 (w.heap.size+1)):=hide (by rw[hw4];exact (R.out.far hrq _ _).drew);have u0:w4.cell? ⟨w.heap.size+1+1,0,none⟩=some (.int .i64 y.kind):=by rw[hw4];exact jM Q.out.c0 Q.out.c1 0 _ rfl
  have u1:w4.cell? ⟨w.heap.size+1+1,1,none⟩=some (.bool y.nullable):=by rw[hw4];exact jM Q.out.c0 Q.out.c1 1 _ rfl
  have hb0:Below w.heap.size w w4:=by rw[hw4];exact (fq hb0 (by omega) _ _).drew
  rw[<-hw4];clear hw4 Q;obtain ⟨r0,r1,s0,s1,_⟩:=R.out;go_wp2;refine bodyPost_ret (v:=.tuple #[.agg (Kd.cells ⟨y.kind,y.nullable⟩).toArray,.int .i64 0]) (bS (cs:=Kd.cells ⟨y.kind,y.nullable⟩) rfl _ _ (w.heap.size+1) _ _ rfl rfl (jM R.out.c0 R.out.c1) Tryz.underlying170 rfl (by kernel_rfl)) rfl ⟨by rw[HN.out],fq hb0 (by omega) _ _⟩
theorem TZ (op:Int)(zz:List Zone)(kd nu ar:Int)(st nm:ByteArray)(w:World)(b off:Nat)(c:Nat)(xk xn yk yn:Int)(xs ys:ByteArray)(hx:In w (some ⟨b,off,none⟩) 2 c ([⟨xk,xn,xs⟩,⟨yk,yn,ys⟩]:List Val))(hop:4<=op/\op<=13)(hx30:aF xn)(hy30:aF yn)(hsx:xs.size<=64)(hsy:ys.size<=64)(A1:Option Addr)(n1 c1:Nat)(A3:Option Addr)(n3 c3:Nat)(A2:Option Addr)(n2 c2:Nat)(hz:In w A2 n2 c2 zz):
  Calls Tryz.prog 161 #[.agg #[.int .i64 op,.int .i64 kd,.int .i64 nu,.string st,.string nm,.int .i64 ar],.slice (some ⟨b,off,none⟩) 2 c,.slice A1 n1 c1,.slice A3 n3 c3,.slice A2 n2 c2] w λe w'=>e=.returned (.agg (uk zz ⟨op,⟨kd,nu,st⟩,nm,ar⟩ ([⟨xk,xn,xs⟩,⟨yk,yn,ys⟩]:List Val)).cells.toArray)/\Below w.heap.size w w':=by
 obtain ⟨hB,xV,xok⟩:=mi hx (show 0<2 by omega) (x:=⟨xk,xn,xs⟩) rfl;obtain ⟨hB,yV,Uc⟩:=mi hx (show 1<2 by omega) (x:=⟨yk,yn,ys⟩) rfl;have e0:(op==0)=false:=by simp;omega
 have e1:(op==1)=false:=by simp;omega
 have e2:(op==2)=false:=by simp;omega
 have e3:(op==3)=false:=by simp;omega
 have e14:(op==14)=false:=by simp;omega
 have e15:(op==15)=false:=by simp;omega
 have e16:(op==16)=false:=by simp;omega
 have e17:(op==17)=false:=by simp;omega
 have e18:(op==18)=false:=by simp;omega
 have e19:(op==19)=false:=by simp;omega
 have e20:(op==20)=false:=by simp;omega
 have LB:=hide hop;clear hop;go_enter Tryz.func161,Tryz.ntmps161;go_upto_region 20 with (fail);obtain ⟨w0,hw0,Z,N0,N1,N2,N3,N4, -,hb0⟩:=Ef w op kd nu ar st nm;rw[<-hw0];clear hw0;have hn0:w.heap.size<w0.heap.size:=Nat.lt_trans (show w.heap.size<w.heap.size+1 by omega) Z.out.lt;have hB0:b<w0.heap.size:=by have:=hb0.size;omega
 have hne:¬b=w.heap.size+1:=by omega
 obtain ⟨x0,x1,x2⟩:=V3.below xV hb0 hB;obtain ⟨y0,y1,y2⟩:=V3.below yV hb0 hB;simp only[Nat.zero_mul,Nat.one_mul,Nat.add_zero,Nat.reduceMul]at x0 x1 x2 y0 y1 y2;obtain ⟨z0,z1,z2,f0,f1,f2,_⟩:=Z.out;have hnn:¬w.heap.size=w.heap.size+1:=by omega
 go_wp2
 go_loop [11] (λi=> ∃k:Nat,k<=2/\i=.int .i64 k/\(0<k->¬xk=0)/\(1<k->¬yk=0)) (λi=>2-(intOf i).toNat)
 case atStart=>exact ⟨0,by omega,rfl,λh=>absurd h (by omega),λh=>absurd h (by omega)⟩
 case round=>
  obtain ⟨k,hk,rfl,h0,h1⟩:=hrel;obtain rfl|rfl|rfl:k=0\/k=1\/k=2:=by omega
  ·clear h0 h1;by_cases hkx:xk=0
   ·have HV:Hid (uk zz ⟨op,⟨kd,nu,st⟩,nm,ar⟩ ([⟨xk,xn,xs⟩,⟨yk,yn,ys⟩]:List Val)=bG):=hide (by simp only[uk];rw[if_neg (by have:=LB.out;omega),if_neg (by have:=LB.out;omega),if_neg (by have:=LB.out;omega),if_pos (.inl hkx)]);have q:(xk==0)=true:=by simpa using hkx
    clear hkx;go_wp2;refine bodyPost_ret (v:=.agg (Val.cells bG).toArray) (bJ (cs:=Val.cells bG) rfl _ _ (w.heap.size+1) _ rfl (dM Z.out.c0 Z.out.c1 Z.out.c2) Tryz.underlying36 rfl (by kernel_rfl)) rfl ⟨by rw[HV.out],aJ hb0 (by omega) _ _ _⟩
   ·have q:(xk==0)=false:=by simpa using hkx
    go_wp2
    go_round
    case rel=>exact ⟨1,by omega,by go_num,λ_=>hkx,λh=>absurd h (by omega)⟩
    case measure=>simp[intOf]
  ·have hx0:=hide (h0 (by omega));clear h0 h1;by_cases hkx:yk=0
   ·have HV:Hid (uk zz ⟨op,⟨kd,nu,st⟩,nm,ar⟩ ([⟨xk,xn,xs⟩,⟨yk,yn,ys⟩]:List Val)=bG):=hide (by simp only[uk];rw[if_neg (by have:=LB.out;omega),if_neg (by have:=LB.out;omega),if_neg (by have:=LB.out;omega),if_pos (.inr hkx)]);have q:(yk==0)=true:=by simpa using hkx
    clear hkx;go_wp2;refine bodyPost_ret (v:=.agg (Val.cells bG).toArray) (bJ (cs:=Val.cells bG) rfl _ _ (w.heap.size+1) _ rfl (dM Z.out.c0 Z.out.c1 Z.out.c2) Tryz.underlying36 rfl (by kernel_rfl)) rfl ⟨by rw[HV.out],aJ hb0 (by omega) _ _ _⟩
   ·have q:(yk==0)=false:=by simpa using hkx
    go_wp2
    go_round
    case rel=>exact ⟨2,by omega,by go_num,λ_=>hx0.out,λ_=>hkx⟩
    case measure=>simp[intOf]
  ·have HV:Hid (uk zz ⟨op,⟨kd,nu,st⟩,nm,ar⟩ ([⟨xk,xn,xs⟩,⟨yk,yn,ys⟩]:List Val)=dX op ⟨xk,xn,xs⟩ ⟨yk,yn,ys⟩):=hide (by simp only[uk];rw[if_neg (by have:=LB.out;omega),if_neg (by have:=LB.out;omega),if_neg (by have:=LB.out;omega),if_neg (by rintro (h|h);exact h0 (by omega) h;exact h1 (by omega) h)]);clear h0 h1;go_upto_region 36 with (fail);go_region_held3 (λV=>V.cell? ⟨b,off,none⟩=some (.int .i64 xk)/\V.cell? ⟨b,off+1,none⟩=some (.int .i64 xn)/\V.cell? ⟨b,off+2,none⟩=some (.string xs)/\V.cell? ⟨b,off+3,none⟩=some (.int .i64 yk)/\V.cell? ⟨b,off+3+1,none⟩=some (.int .i64 yn)/\V.cell? ⟨b,off+3+2,none⟩=some (.string ys)/\V.cell? ⟨w.heap.size,0,none⟩=some (.int .i64 op)) (first|exact ⟨x0,x1,x2,y0,y1,y2,N0⟩|exact ⟨x0',x1',x2',y0',y1',y2',N0'⟩|exact ⟨ag (ag (ag x0' (.inl hne)) (.inl hne)) (.inl hne),ag (ag (ag x1' (.inl hne)) (.inl hne)) (.inl hne),ag (ag (ag x2' (.inl hne)) (.inl hne)) (.inl hne),ag (ag (ag y0' (.inl hne)) (.inl hne)) (.inl hne),ag (ag (ag y1' (.inl hne)) (.inl hne)) (.inl hne),ag (ag (ag y2' (.inl hne)) (.inl hne)) (.inl hne),ag (ag (ag N0' (.inl hnn)) (.inl hnn)) (.inl hnn)⟩) (first|(go_at_call 201;refine (MR op LB.out ⟨xk,xn,xs⟩ ⟨yk,yn,ys⟩ hx30 hy30 hsx hsy _).mono ?_;rintro e w1 ⟨rfl,hb1⟩;have hq:=aj hb1;have x0':=ah hq hB0 x0;have x1':=ah hq hB0 x1;have x2':=ah hq hB0 x2;have y0':=ah hq hB0 y0;have y1':=ah hq hB0 y1;have y2':=ah hq hB0 y2;have N0':=ah hq hn0 N0;have Z:=hide (Z.out.below hq);have hb0:=aa hb0 hq;clear hb1;obtain ⟨z0,z1,z2,f0,f1,f2,_⟩:=Z.out;generalize hbv:dX op ⟨xk,xn,xs⟩ ⟨yk,yn,ys⟩=bv;obtain ⟨bk,bn,bs⟩:=bv;have kH:=hide hbv;clear hbv;simp only[Val.cells]));go_wp2;refine qQ rfl Z.out rfl rfl ⟨by rw[HV.out,kH.out],aJ hb0 (by omega) _ _ _⟩
theorem va_1 (kd nu ar:Int)(st nm:ByteArray)(w:World)(A:Option Addr)(m c:Nat)(A1:Option Addr)(n1 c1:Nat)(cols:List Col)(hc:In w A1 n1 c1 cols)(A3:Option Addr)(n3 c3:Nat)(row:List Val)(hr:In w A3 n3 c3 row)(v2:Value)(hi0:0<=index cols nm)(hi1:index cols nm<n3):
  Calls Tryz.prog 161 #[.agg #[.int .i64 1,.int .i64 kd,.int .i64 nu,.string st,.string nm,.int .i64 ar],.slice A m c,.slice A1 n1 c1,.slice A3 n3 c3,v2] w λe w'=>e=.returned (.agg (row.getD (index cols nm).toNat bG).cells.toArray)/\Below w.heap.size w w':=by
 have h64:=hc.le;have h65:=hr.le;obtain ⟨j,hj⟩: ∃j:Nat,index cols nm=(j:Int):=⟨(index cols nm).toNat,by omega⟩;obtain ⟨b',off',⟨yk,yn,ys⟩,rfl,hB',HY,v0,v1,TY,Uc⟩:=hr.val (show j<n3 by omega);have HV:Hid (row.getD (index cols nm).toNat bG=⟨yk,yn,ys⟩):=hide (by rw[hj,Int.toNat_natCast,List.getD,(bX HY.out).1];rfl);have k0:(0:Int)<=(j:Int):=by omega
 have k1:(j:Int)<(n3:Int):=by omega
 go_enter Tryz.func161,Tryz.ntmps161;go_wp2_with fail;obtain ⟨w0,hw0,Z,N0,N1,N2,N3,N4, -,hb0⟩:=Ef w 1 kd nu ar st nm;rw[<-hw0];clear hw0;have hn0:w.heap.size<w0.heap.size:=Nat.lt_trans (show w.heap.size<w.heap.size+1 by omega) Z.out.lt;refine (oU _ _ _ _ cols (hc.below hb0) nm).mono ?_;rintro e w1 ⟨rfl,rfl⟩;rw[hj];clear hi0 hi1 hj;have v0:=ah hb0 hB' v0;have v1:=ah hb0 hB' v1;have v2'':=ah hb0 hB' TY;obtain ⟨z0,z1,z2,f0,f1,f2,_⟩:=Z.out;go_wp2;refine qQ rfl Z.out rfl rfl ⟨by rw[HV.out],aJ hb0 (by omega) _ _ _⟩
theorem sN (zz:List Zone)(x:Node)(hsh:shaped x=true)(hko:x.ok)(h21:x.op≠21)(m:Nat)(hm:arity x.op x.arity=(m:Int))(w:World)(A:Option Addr)(c:Nat)(xs:List Val)(hx:In w A m c xs)(hv: ∀v∈xs,valid v=true)(A1:Option Addr)(n1 c1:Nat)(cols:List Col)(hc:In w A1 n1 c1 cols)(A3:Option Addr)(n3 c3:Nat)(row:List Val)(hr:In w A3 n3 c3 row)(hi:x.op=1->0<=index cols x.name/\index cols x.name<n3)(A2:Option Addr)(n2 c2:Nat)(hz:In w A2 n2 c2 zz):
  Calls Tryz.prog 161 #[.agg x.cells.toArray,.slice A m c,.slice A1 n1 c1,.slice A3 n3 c3,.slice A2 n2 c2] w λe w'=>e=.returned (.agg (iI cols row zz x xs).cells.toArray)/\Below w.heap.size w w':=by
 have hop:=hko.2.2.2.2;obtain ⟨op,⟨kd,nu,st⟩,nm,ar⟩:=x;simp only[GG]at hm hop hi;clear hsh hko;by_cases h1:op=1
 ·subst h1;exact va_1 kd nu ar st nm w A m c A1 n1 c1 cols hc A3 n3 c3 row hr _ (hi rfl).1 (hi rfl).2
 simp only[iI];rw[if_neg h1];have e:m=2:=by
  have h:op=12\/op=13:=by omega
  rcases h with rfl|rfl <;> (simp[arity]at hm;omega)
 subst e;obtain ⟨⟨xk,xn,xs⟩,⟨yk,yn,ys⟩,b,off,rfl,rfl⟩:=hx.len2;have v1:=hv ⟨xk,xn,xs⟩ (by simp);have v2:=hv ⟨yk,yn,ys⟩ (by simp);exact TZ op zz kd nu ar st nm w b off c xk xn yk yn xs ys hx (by omega) (CQ v1) (CQ v2) (CR v1) (CR v2) A1 n1 c1 A3 n3 c3 A2 n2 c2 hz
end Go.Proofs.YtopjjlmfilgngaaGreatDoor
