/-
  warehouseref9.node: it returns nodeKd. (Printed by gen_node.py.)
-/
import Derived.Test.YtggejcekmehocaaGreatDoorGaq
import Derived.Test.YtggejcekmehocaaGreatDoorTypG
import Derived.Test.YtggejcekmehocaaGreatDoorAppA
namespace Go.Proofs.YtggejcekmehocaaGreatDoor
set_option maxHeartbeats 4000000
set_option maxRecDepth 100000
open Go.RowKit
set_option linter.unusedSimpArgs false
set_option linter.unusedVariables false
theorem BL (op:Int)(hop:op=2\/op=3\/op=16\/op=19\/op=20)(xk:Int)(xn:Bool)(w:World):
  Calls Tryz.prog 188 #[.int .i64 op,.agg #[.int .i64 xk,.bool xn]] w λe w'=>gI (ek op ⟨xk,xn⟩) e/\Below w.heap.size w w':=by
 rcases hop with rfl|rfl|rfl|rfl|rfl
 ·exact (Ps xk xn w).mono λe w' h=>⟨gI.mk h.1 rfl (λ_=>rfl),h.2⟩
 ·exact (Pt xk xn w).mono λe w' h=>⟨gI.mk h.1 rfl (λ_=>rfl),h.2⟩
 ·exact (M9 xk xn w).mono λe w' h=>⟨gI.mk h.1 rfl (λ_=>rfl),h.2⟩
 ·exact (Na xk xn w).mono λe w' h=>⟨gI.mk h.1 rfl (λ_=>rfl),h.2⟩
 ·exact (Nb xk xn w).mono λe w' h=>⟨gI.mk h.1 rfl (λ_=>rfl),h.2⟩
structure Zk (w:World) (g:Nat):Prop where
 c0:w.cell? ⟨g,0,none⟩=some (.int .i64 0)
 c1:w.cell? ⟨g,1,none⟩=some (.bool false)
 f0:w.frozen? ⟨g,0,none⟩=false
 f1:w.frozen? ⟨g,1,none⟩=false
 lt:g<w.heap.size
theorem Zk.below {w w':World}{g:Nat}(h:Zk w g)(hb:Below w.heap.size w w'):Zk w' g:=
 ⟨ah hb h.lt h.c0,ah hb h.lt h.c1,((ai hb).2 _ _ h.lt).trans h.f0,((ai hb).2 _ _ h.lt).trans h.f1,by have:=hb.size;have:=h.lt;omega⟩
theorem Zk.made (w:World)(t:TypeId):Zk (w.alloc (.cells #[.int .i64 0,.bool false] t)) w.heap.size:=by
 constructor <;> simp[go_sem]
theorem Zk.far {w:World}{g g':Nat}(h:Zk w g)(hne:g≠g')(a b:Value):Zk ((w.setCell ⟨g',0,none⟩ a).setCell ⟨g',1,none⟩ b) g:=
 ⟨ae (ae h.c0 (.inl hne)) (.inl hne),ae (ae h.c1 (.inl hne)) (.inl hne),by have:=h.f0;simp[this],by have:=h.f1;simp[this],by have:=h.lt;simpa using this⟩
theorem bO {w:World}{g:Nat}{u0 u1 v0 v1:Value}(h0:w.cell? ⟨g,0,none⟩=some u0)(h1:w.cell? ⟨g,1,none⟩=some u1):
  ∀(j:Nat) (v:Value),[v0,v1][j]?=some v->((w.setCell ⟨g,0,none⟩ v0).setCell ⟨g,1,none⟩ v1).cell? ⟨g,j,none⟩=some v:=by
 intro j v hv
 match j,hv with
 | 0,hv=>simp at hv;subst hv;exact ae (bU h0) (.inr (by omega))
 | 1,hv=>simp at hv;subst hv;exact bU (ae h1 (.inr (by omega)))
theorem aV {B g:Nat}{w w':World}(h:Below B w w')(hg:B<=g)(u v:Value):Below B w ((w'.setCell ⟨g,0,none⟩ u).setCell ⟨g,1,none⟩ v):=(h.setCell hg _).setCell hg _
theorem Zk.drew {w:World}{g:Nat}(h:Zk w g):Zk w.drew g:=⟨h.c0,h.c1,h.f0,h.f1,h.lt⟩
theorem nW (w:World)(op kd nu ar:Int)(st nm:ByteArray): ∃w0,w0=(((w.alloc (.cells #[.int .i64 op,.int .i64 kd,.int .i64 nu,.string st,.string nm,.int .i64 ar] 77)).alloc (.cells #[.int .i64 0,.bool false] 173)).alloc (.cells #[.int .i64 0,.bool false] 173))/\Hid (Zk w0 (w.heap.size+1))/\Hid (Zk w0 (w.heap.size+1+1))/\
  w0.cell? ⟨w.heap.size,0,none⟩=some (.int .i64 op)/\w0.cell? ⟨w.heap.size,1,none⟩=some (.int .i64 kd)/\w0.cell? ⟨w.heap.size,2,none⟩=some (.int .i64 nu)/\w0.cell? ⟨w.heap.size,3,none⟩=some (.string st)/\w0.cell? ⟨w.heap.size,4,none⟩=some (.string nm)/\w0.cell? ⟨w.heap.size,5,none⟩=some (.int .i64 ar)/\Below w.heap.size w w0:=
 ⟨_,rfl,hide (by have:=(Zk.made (w.alloc (.cells #[.int .i64 op,.int .i64 kd,.int .i64 nu,.string st,.string nm,.int .i64 ar] 77)) 173).below (w':=(((w.alloc (.cells #[.int .i64 op,.int .i64 kd,.int .i64 nu,.string st,.string nm,.int .i64 ar] 77)).alloc (.cells #[.int .i64 0,.bool false] 173)).alloc (.cells #[.int .i64 0,.bool false] 173))) af;simpa using this),hide (by have:=Zk.made ((w.alloc (.cells #[.int .i64 op,.int .i64 kd,.int .i64 nu,.string st,.string nm,.int .i64 ar] 77)).alloc (.cells #[.int .i64 0,.bool false] 173)) 173;simpa using this),by simp[go_sem],by simp[go_sem],by simp[go_sem],by simp[go_sem],by simp[go_sem],by simp[go_sem],below_alloc3⟩
theorem Lc (xk yk:Int)(xn yn:Bool)(w:World):
  Calls Tryz.prog 189 #[.int .i64 5,.agg #[.int .i64 xk,.bool xn],.agg #[.int .i64 yk,.bool yn]] w λe w'=>gI (aO 5 ⟨xk,xn⟩ ⟨yk,yn⟩) e/\Below w.heap.size w w':=by
 have hx2:=Below.refl (((w.alloc (.cells #[.int .i64 xk,.bool xn] 173)).alloc (.cells #[.int .i64 yk,.bool yn] 173)).alloc (.cells #[.int .i64 0,.bool false] 173)).heap.size (((w.alloc (.cells #[.int .i64 xk,.bool xn] 173)).alloc (.cells #[.int .i64 yk,.bool yn] 173)).alloc (.cells #[.int .i64 0,.bool false] 173))
 cases xn <;> cases yn
 all_goals (
  go_enter Tryz.func189,Tryz.ntmps189
  go_wp2_with (go_at_call 229;refine (yM _ _ _ _ _).mono ?_;rintro e w1 ⟨⟨⟨kk,kn⟩,rfl,hk⟩,hb1⟩;have HK:=hide hk;have hx2:=aa hx2 hb1;have d0:=(ai hx2).1 (w.heap.size+1+1) 0 (by simp <;> omega);have d1:=(ai hx2).1 (w.heap.size+1+1) 1 (by simp <;> omega);have F0:=(ai hx2).2 (w.heap.size+1+1) 0 (by simp <;> omega);have F1:=(ai hx2).2 (w.heap.size+1+1) 1 (by simp <;> omega);simp[go_sem]at d0 d1 F0 F1;simp only[Kd.cells];have HB:Hid (Below w.heap.size w w1):=hide (aa (aa below_alloc2 af) hx2);have HS:=hide (dA d0 d1);clear hb1 hk hx2)
  refine bodyPost_ret (v:=.tuple #[.agg (Kd.cells ⟨kk,kn⟩).toArray,.bool (aO 5 ⟨xk,_⟩ ⟨yk,_⟩).2]) ?_ rfl ⟨⟨_,rfl,HK.out⟩,(HB.out.setCell (by simp <;> omega) _).setCell (by simp <;> omega) _⟩
  obtain ⟨S0,S1⟩:=HS.out
  simp[results,Tryz.results189,go_sem,S0,S1,Kd.cells])
theorem FY (op:Int)(hop:(4<=op/\op<=15)\/op=18)(xk yk:Int)(xn yn:Bool)(w:World):
  Calls Tryz.prog 189 #[.int .i64 op,.agg #[.int .i64 xk,.bool xn],.agg #[.int .i64 yk,.bool yn]] w λe w'=>gI (aO op ⟨xk,xn⟩ ⟨yk,yn⟩) e/\Below w.heap.size w w':=by
 obtain rfl|rfl|rfl|rfl|rfl|rfl|rfl|rfl|rfl|rfl|rfl|rfl|rfl:op=4\/op=5\/op=6\/op=7\/op=8\/op=9\/op=10\/op=11\/op=12\/op=13\/op=14\/op=15\/op=18:=by omega
 ·by_cases h:xk=4
  ·subst h
   exact (IW yk xn yn w).mono λe w' h=>⟨gI.mk h.1 rfl (λ_=>rfl),h.2⟩
  ·exact (IV xk yk xn yn w (by simpa using h) h).mono λe w' h=>⟨gI.mk h.1 rfl (λ_=>rfl),h.2⟩
 ·exact Lc xk yk xn yn w
 ·exact (uB 6 (by simp) xk yk xn yn w).mono λe w' h=>⟨gI.mk h.1 rfl (λ_=>rfl),h.2⟩
 ·exact (uB 7 (by simp) xk yk xn yn w).mono λe w' h=>⟨gI.mk h.1 rfl (λ_=>rfl),h.2⟩
 ·exact (uB 8 (by simp) xk yk xn yn w).mono λe w' h=>⟨gI.mk h.1 rfl (λ_=>rfl),h.2⟩
 ·exact (uB 9 (by simp) xk yk xn yn w).mono λe w' h=>⟨gI.mk h.1 rfl (λ_=>rfl),h.2⟩
 ·exact (uC 10 (by simp) xk yk xn yn w).mono λe w' h=>⟨gI.mk h.1 rfl (λ_=>rfl),h.2⟩
 ·exact (uC 11 (by simp) xk yk xn yn w).mono λe w' h=>⟨gI.mk h.1 rfl (λ_=>rfl),h.2⟩
 ·exact (uC 12 (by simp) xk yk xn yn w).mono λe w' h=>⟨gI.mk h.1 rfl (λ_=>rfl),h.2⟩
 ·exact (uC 13 (by simp) xk yk xn yn w).mono λe w' h=>⟨gI.mk h.1 rfl (λ_=>rfl),h.2⟩
 ·exact (yD 14 (by simp) xk yk xn yn w).mono λe w' h=>⟨gI.mk h.1 rfl (λ_=>rfl),h.2⟩
 ·exact (yD 15 (by simp) xk yk xn yn w).mono λe w' h=>⟨gI.mk h.1 rfl (λ_=>rfl),h.2⟩
 ·exact (yD 18 (by simp) xk yk xn yn w).mono λe w' h=>⟨gI.mk h.1 rfl (λ_=>rfl),h.2⟩
theorem Rx (kd nu ar:Int)(st nm:ByteArray)(w:World)(A1:Option Addr)(n1 c1:Nat)(cols:List Col)(hc:In w A1 n1 c1 cols)(A2:Option Addr)(n2 c2:Nat)(zs:List Zone)(hz:In w A2 n2 c2 zs)(A:Option Addr)(m c:Nat):
  Calls Tryz.prog 157 #[.agg #[.int .i64 0,.int .i64 kd,.int .i64 nu,.string st,.string nm,.int .i64 ar],.slice A m c,.slice A1 n1 c1,.slice A2 n2 c2] w λe w'=>e=.returned (.tuple #[.agg (aF cols zs ⟨0,⟨kd,nu,st⟩,nm,ar⟩ []).2.cells.toArray,.int .i64 (aF cols zs ⟨0,⟨kd,nu,st⟩,nm,ar⟩ []).1])/\Below w.heap.size w w':=by
 have HN:Hid (aF cols zs ⟨0,⟨kd,nu,st⟩,nm,ar⟩ []=(0,⟨kd,kd==0⟩)):=hide (by simp[aF,aQ])
 cases hkd:(kd==0)
 all_goals
  rw[hkd]at HN
  go_enter Tryz.func157,Tryz.ntmps157
  go_wp2
  refine bodyPost_ret (v:=.tuple #[.agg (Kd.cells ⟨kd,_⟩).toArray,.int .i64 0]) ?_ rfl ⟨by rw[HN.out],by first|exact (aa below_alloc2 af)|exact ((aa below_alloc2 af).setCell (by simp <;> omega) _).setCell (by simp <;> omega) _⟩
  simp[results,Tryz.results157,go_sem,Kd.cells]
theorem Pk (kd nu ar:Int)(st nm:ByteArray)(w:World)(A1:Option Addr)(n1 c1:Nat)(cols:List Col)(hc:In w A1 n1 c1 cols)(A2:Option Addr)(n2 c2:Nat)(zs:List Zone)(hz:In w A2 n2 c2 zs)(A:Option Addr)(m c:Nat)(xs:List Kd):
  Calls Tryz.prog 157 #[.agg #[.int .i64 21,.int .i64 kd,.int .i64 nu,.string st,.string nm,.int .i64 ar],.slice A m c,.slice A1 n1 c1,.slice A2 n2 c2] w λe w'=>e=.returned (.tuple #[.agg (aF cols zs ⟨21,⟨kd,nu,st⟩,nm,ar⟩ xs).2.cells.toArray,.int .i64 (aF cols zs ⟨21,⟨kd,nu,st⟩,nm,ar⟩ xs).1])/\Below w.heap.size w w':=by
 have HN:Hid (aF cols zs ⟨21,⟨kd,nu,st⟩,nm,ar⟩ xs=(5,default)):=hide (by simp[aF])
 go_enter Tryz.func157,Tryz.ntmps157
 go_wp2
 refine bodyPost_ret (v:=.tuple #[.agg (Kd.cells ⟨0,false⟩).toArray,.int .i64 5]) ?_ rfl ⟨by rw[HN.out];rfl,by first|exact (aa below_alloc2 af)|exact ((aa below_alloc2 af).setCell (by simp <;> omega) _).setCell (by simp <;> omega) _⟩
 simp[results,Tryz.results157,go_sem,Kd.cells]
theorem Im (op kd nu ar:Int)(st nm:ByteArray)(w:World)(A1:Option Addr)(n1 c1:Nat)(cols:List Col)(hc:In w A1 n1 c1 cols)(A2:Option Addr)(n2 c2:Nat)(zs:List Zone)(hz:In w A2 n2 c2 zs)(b off c:Nat)(xk:Int)(xn:Bool)(hx:In w (some ⟨b,off,none⟩) 1 c ([⟨xk,xn⟩]:List Kd))(hop:op=2\/op=3\/op=16\/op=19):
  Calls Tryz.prog 157 #[.agg #[.int .i64 op,.int .i64 kd,.int .i64 nu,.string st,.string nm,.int .i64 ar],.slice (some ⟨b,off,none⟩) 1 c,.slice A1 n1 c1,.slice A2 n2 c2] w λe w'=>e=.returned (.tuple #[.agg (aF cols zs ⟨op,⟨kd,nu,st⟩,nm,ar⟩ ([⟨xk,xn⟩]:List Kd)).2.cells.toArray,.int .i64 (aF cols zs ⟨op,⟨kd,nu,st⟩,nm,ar⟩ ([⟨xk,xn⟩]:List Kd)).1])/\Below w.heap.size w w':=by
 rcases Bool.eq_false_or_eq_true ((ek op ⟨xk,xn⟩).2) with hok|hok
 all_goals
  obtain ⟨hB,x0,x1⟩:=bq hx (show 0<1 by omega) (x:=⟨xk,xn⟩) rfl
  simp only[Nat.zero_mul,Nat.one_mul,Nat.add_zero,Nat.reduceMul]at x0 x1
  first|(have:=(show (ek op ⟨xk,xn⟩).2=true from hok);have HN:Hid (aF cols zs ⟨op,⟨kd,nu,st⟩,nm,ar⟩ ([⟨xk,xn⟩]:List Kd)=(0,(ek op ⟨xk,xn⟩).1)):=hide (by rw[aF,if_neg (by simp only;omega),if_neg (by simp only;omega),if_neg (λh=>absurd h.1 (by simp only;omega))];rw[if_neg (show ¬(aQ (⟨op,⟨kd,nu,st⟩,nm,ar⟩:Node) ([⟨xk,xn⟩]:List Kd)).2=false from λh=>by have h2:(aQ (⟨op,⟨kd,nu,st⟩,nm,ar⟩:Node) ([⟨xk,xn⟩]:List Kd)).2=true:=hok;rw[h2]at h;cases h)];rfl))|(have HN:Hid (aF cols zs ⟨op,⟨kd,nu,st⟩,nm,ar⟩ ([⟨xk,xn⟩]:List Kd)=(7,default)):=hide (by rw[aF,if_neg (by simp only;omega),if_neg (by simp only;omega),if_neg (λh=>absurd h.1 (by simp only;omega))];rw[if_pos (show (aQ (⟨op,⟨kd,nu,st⟩,nm,ar⟩:Node) ([⟨xk,xn⟩]:List Kd)).2=false from hok)]))
  have e0:(op==0)=false:=by simp;omega
  have e1:(op==1)=false:=by simp;omega
  have e17:(op==17)=false:=by simp;omega
  have e20:(op==20)=false:=by simp;omega
  have e21:(op==21)=false:=by simp;omega
  have Ad:=hide hop
  clear hop
  go_enter Tryz.func157,Tryz.ntmps157
  go_upto_region 4 with (fail)
  obtain ⟨w0,hw0,R,Q,N0,N1, -, -,N4, -,hb0⟩:=nW w op kd nu ar st nm
  rw[<-hw0]
  clear hw0
  have hn0:w.heap.size<w0.heap.size:=Nat.lt_trans (show w.heap.size<w.heap.size+1 by omega) R.out.lt
  have hnq:¬w.heap.size=w.heap.size+1+1:=by omega
  have hrq:w.heap.size+1≠w.heap.size+1+1:=by omega
  have hB0:b<w0.heap.size:=by have:=hb0.size;omega
  have hne:¬b=w.heap.size+1+1:=by omega
  have x0:=ah hb0 hB x0
  have x1:=ah hb0 hB x1
  go_region_held3 (λV=>V.cell? ⟨w.heap.size,0,none⟩=some (.int .i64 op)/\V.cell? ⟨b,off,none⟩=some (.int .i64 xk)/\V.cell? ⟨b,off+1,none⟩=some (.bool xn)) (first|exact ⟨N0,x0,x1⟩|exact ⟨N0',x0',x1'⟩|exact ⟨ae (ae N0' (.inl hnq)) (.inl hnq),ae (ae x0' (.inl hne)) (.inl hne),ae (ae x1' (.inl hne)) (.inl hne)⟩|exact ⟨ae (ae N0 (.inl hnq)) (.inl hnq),ae (ae x0 (.inl hne)) (.inl hne),ae (ae x1 (.inl hne)) (.inl hne)⟩) (first|(go_at_call 188;refine (BL op (by have:=Ad.out;omega) xk xn _).mono ?_;rintro e w1 ⟨⟨⟨kk,kn⟩,rfl,hk⟩,hb1⟩;have HK:=hide hk;clear hk;rw[hok];simp only[Kd.cells];have hq:=ag hb1;have N0':=ah hq hn0 N0;have x0':=ah hq hB0 x0;have x1':=ah hq hB0 x1;have R:=hide (R.out.below hq);have Q:=hide (Q.out.below hq);have hb0:=aa hb0 hq;clear hb1;obtain ⟨q0,q1,p0,p1,_⟩:=Q.out;obtain ⟨r0,r1,s0,s1,_⟩:=R.out))
  obtain ⟨w4,hw4⟩: ∃w4,w4=(w1.setCell ⟨w.heap.size+1+1,0,none⟩ (.int .i64 kk)).setCell ⟨w.heap.size+1+1,1,none⟩ (.bool kn):=⟨_,rfl⟩
  have R:Hid (Zk w4 (w.heap.size+1)):=hide (by rw[hw4];exact R.out.far hrq _ _)
  have u0:w4.cell? ⟨w.heap.size+1+1,0,none⟩=some (.int .i64 kk):=by rw[hw4];exact bO Q.out.c0 Q.out.c1 0 _ rfl
  have u1:w4.cell? ⟨w.heap.size+1+1,1,none⟩=some (.bool kn):=by rw[hw4];exact bO Q.out.c0 Q.out.c1 1 _ rfl
  have hb0:Below w.heap.size w w4:=by rw[hw4];exact aV hb0 (by omega) _ _
  rw[<-hw4]
  clear hw4 Q
  obtain ⟨r0,r1,s0,s1,_⟩:=R.out
  go_wp2
  first|(have:=(show (ek op ⟨xk,xn⟩).2=true from hok);refine bodyPost_ret (v:=.tuple #[.agg (Kd.cells ⟨kk,kn⟩).toArray,.int .i64 0]) (aA (cs:=Kd.cells ⟨kk,kn⟩) rfl _ _ (w.heap.size+1) _ _ rfl rfl (bO R.out.c0 R.out.c1) Tryz.underlying173 rfl (by kernel_rfl)) rfl ⟨by rw[HN.out,<-HK.out hok],aV hb0 (by omega) _ _⟩)|(refine bodyPost_ret (v:=.tuple #[.agg (Kd.cells ⟨0,false⟩).toArray,.int .i64 7]) (aA (cs:=Kd.cells ⟨0,false⟩) rfl _ _ (w.heap.size+1) _ _ rfl rfl (bO R.out.c0 R.out.c1) Tryz.underlying173 rfl (by kernel_rfl)) rfl ⟨by rw[HN.out];rfl,aV hb0 (by omega) _ _⟩)
theorem EM (op kd nu ar:Int)(st nm:ByteArray)(w:World)(A1:Option Addr)(n1 c1:Nat)(cols:List Col)(hc:In w A1 n1 c1 cols)(A2:Option Addr)(n2 c2:Nat)(zs:List Zone)(hz:In w A2 n2 c2 zs)(b off c:Nat)(xk:Int)(xn:Bool)(yk:Int)(yn:Bool)(hx:In w (some ⟨b,off,none⟩) 2 c ([⟨xk,xn⟩,⟨yk,yn⟩]:List Kd))(hop:(4<=op/\op<=15)\/op=18):
  Calls Tryz.prog 157 #[.agg #[.int .i64 op,.int .i64 kd,.int .i64 nu,.string st,.string nm,.int .i64 ar],.slice (some ⟨b,off,none⟩) 2 c,.slice A1 n1 c1,.slice A2 n2 c2] w λe w'=>e=.returned (.tuple #[.agg (aF cols zs ⟨op,⟨kd,nu,st⟩,nm,ar⟩ ([⟨xk,xn⟩,⟨yk,yn⟩]:List Kd)).2.cells.toArray,.int .i64 (aF cols zs ⟨op,⟨kd,nu,st⟩,nm,ar⟩ ([⟨xk,xn⟩,⟨yk,yn⟩]:List Kd)).1])/\Below w.heap.size w w':=by
 rcases Bool.eq_false_or_eq_true ((aO op ⟨xk,xn⟩ ⟨yk,yn⟩).2) with hok|hok
 all_goals
  obtain ⟨hB,x0,x1⟩:=bq hx (show 0<2 by omega) (x:=⟨xk,xn⟩) rfl
  obtain ⟨hB,y0,y1⟩:=bq hx (show 1<2 by omega) (x:=⟨yk,yn⟩) rfl
  simp only[Nat.zero_mul,Nat.one_mul,Nat.add_zero,Nat.reduceMul]at x0 x1 y0 y1
  first|(have:=(show (aO op ⟨xk,xn⟩ ⟨yk,yn⟩).2=true from hok);have HN:Hid (aF cols zs ⟨op,⟨kd,nu,st⟩,nm,ar⟩ ([⟨xk,xn⟩,⟨yk,yn⟩]:List Kd)=(0,(aO op ⟨xk,xn⟩ ⟨yk,yn⟩).1)):=hide (by rw[aF,if_neg (by simp only;omega),if_neg (by simp only;omega),if_neg (λh=>absurd h.1 (by simp only;omega))];rw[if_neg (show ¬(aQ (⟨op,⟨kd,nu,st⟩,nm,ar⟩:Node) ([⟨xk,xn⟩,⟨yk,yn⟩]:List Kd)).2=false from λh=>by have h2:(aQ (⟨op,⟨kd,nu,st⟩,nm,ar⟩:Node) ([⟨xk,xn⟩,⟨yk,yn⟩]:List Kd)).2=true:=hok;rw[h2]at h;cases h)];rfl))|(have HN:Hid (aF cols zs ⟨op,⟨kd,nu,st⟩,nm,ar⟩ ([⟨xk,xn⟩,⟨yk,yn⟩]:List Kd)=(7,default)):=hide (by rw[aF,if_neg (by simp only;omega),if_neg (by simp only;omega),if_neg (λh=>absurd h.1 (by simp only;omega))];rw[if_pos (show (aQ (⟨op,⟨kd,nu,st⟩,nm,ar⟩:Node) ([⟨xk,xn⟩,⟨yk,yn⟩]:List Kd)).2=false from hok)]))
  have e0:(op==0)=false:=by simp;omega
  have e1:(op==1)=false:=by simp;omega
  have e17:(op==17)=false:=by simp;omega
  have e20:(op==20)=false:=by simp;omega
  have e21:(op==21)=false:=by simp;omega
  have Ad:=hide hop
  clear hop
  go_enter Tryz.func157,Tryz.ntmps157
  go_upto_region 5 with (fail)
  obtain ⟨w0,hw0,R,Q,N0,N1, -, -,N4, -,hb0⟩:=nW w op kd nu ar st nm
  rw[<-hw0]
  clear hw0
  have hn0:w.heap.size<w0.heap.size:=Nat.lt_trans (show w.heap.size<w.heap.size+1 by omega) R.out.lt
  have hnq:¬w.heap.size=w.heap.size+1+1:=by omega
  have hrq:w.heap.size+1≠w.heap.size+1+1:=by omega
  have hB0:b<w0.heap.size:=by have:=hb0.size;omega
  have hne:¬b=w.heap.size+1+1:=by omega
  have x0:=ah hb0 hB x0
  have x1:=ah hb0 hB x1
  have y0:=ah hb0 hB y0
  have y1:=ah hb0 hB y1
  go_region_held3 (λV=>V.cell? ⟨w.heap.size,0,none⟩=some (.int .i64 op)/\V.cell? ⟨b,off,none⟩=some (.int .i64 xk)/\V.cell? ⟨b,off+1,none⟩=some (.bool xn)/\V.cell? ⟨b,off+2,none⟩=some (.int .i64 yk)/\V.cell? ⟨b,off+2+1,none⟩=some (.bool yn)) (first|exact ⟨N0,x0,x1,y0,y1⟩|exact ⟨N0',x0',x1',y0',y1'⟩|exact ⟨ae (ae N0' (.inl hnq)) (.inl hnq),ae (ae x0' (.inl hne)) (.inl hne),ae (ae x1' (.inl hne)) (.inl hne),ae (ae y0' (.inl hne)) (.inl hne),ae (ae y1' (.inl hne)) (.inl hne)⟩|exact ⟨ae (ae N0 (.inl hnq)) (.inl hnq),ae (ae x0 (.inl hne)) (.inl hne),ae (ae x1 (.inl hne)) (.inl hne),ae (ae y0 (.inl hne)) (.inl hne),ae (ae y1 (.inl hne)) (.inl hne)⟩) (first|(go_at_call 189;refine (FY op Ad.out xk yk xn yn _).mono ?_;rintro e w1 ⟨⟨⟨kk,kn⟩,rfl,hk⟩,hb1⟩;have HK:=hide hk;clear hk;rw[hok];simp only[Kd.cells];have hq:=ag hb1;have N0':=ah hq hn0 N0;have x0':=ah hq hB0 x0;have x1':=ah hq hB0 x1;have y0':=ah hq hB0 y0;have y1':=ah hq hB0 y1;have R:=hide (R.out.below hq);have Q:=hide (Q.out.below hq);have hb0:=aa hb0 hq;clear hb1;obtain ⟨q0,q1,p0,p1,_⟩:=Q.out;obtain ⟨r0,r1,s0,s1,_⟩:=R.out))
  obtain ⟨w4,hw4⟩: ∃w4,w4=(w1.setCell ⟨w.heap.size+1+1,0,none⟩ (.int .i64 kk)).setCell ⟨w.heap.size+1+1,1,none⟩ (.bool kn):=⟨_,rfl⟩
  have R:Hid (Zk w4 (w.heap.size+1)):=hide (by rw[hw4];exact R.out.far hrq _ _)
  have u0:w4.cell? ⟨w.heap.size+1+1,0,none⟩=some (.int .i64 kk):=by rw[hw4];exact bO Q.out.c0 Q.out.c1 0 _ rfl
  have u1:w4.cell? ⟨w.heap.size+1+1,1,none⟩=some (.bool kn):=by rw[hw4];exact bO Q.out.c0 Q.out.c1 1 _ rfl
  have hb0:Below w.heap.size w w4:=by rw[hw4];exact aV hb0 (by omega) _ _
  rw[<-hw4]
  clear hw4 Q
  obtain ⟨r0,r1,s0,s1,_⟩:=R.out
  go_wp2
  first|(have:=(show (aO op ⟨xk,xn⟩ ⟨yk,yn⟩).2=true from hok);refine bodyPost_ret (v:=.tuple #[.agg (Kd.cells ⟨kk,kn⟩).toArray,.int .i64 0]) (aA (cs:=Kd.cells ⟨kk,kn⟩) rfl _ _ (w.heap.size+1) _ _ rfl rfl (bO R.out.c0 R.out.c1) Tryz.underlying173 rfl (by kernel_rfl)) rfl ⟨by rw[HN.out,<-HK.out hok],aV hb0 (by omega) _ _⟩)|(refine bodyPost_ret (v:=.tuple #[.agg (Kd.cells ⟨0,false⟩).toArray,.int .i64 7]) (aA (cs:=Kd.cells ⟨0,false⟩) rfl _ _ (w.heap.size+1) _ _ rfl rfl (bO R.out.c0 R.out.c1) Tryz.underlying173 rfl (by kernel_rfl)) rfl ⟨by rw[HN.out];rfl,aV hb0 (by omega) _ _⟩)
theorem Ry (kd nu ar:Int)(st nm:ByteArray)(w:World)(A1:Option Addr)(n1 c1:Nat)(cols:List Col)(hc:In w A1 n1 c1 cols)(A2:Option Addr)(n2 c2:Nat)(zs:List Zone)(hz:In w A2 n2 c2 zs)(A:Option Addr)(m c:Nat)(xs:List Kd):
  Calls Tryz.prog 157 #[.agg #[.int .i64 1,.int .i64 kd,.int .i64 nu,.string st,.string nm,.int .i64 ar],.slice A m c,.slice A1 n1 c1,.slice A2 n2 c2] w λe w'=>e=.returned (.tuple #[.agg (aF cols zs ⟨1,⟨kd,nu,st⟩,nm,ar⟩ xs).2.cells.toArray,.int .i64 (aF cols zs ⟨1,⟨kd,nu,st⟩,nm,ar⟩ xs).1])/\Below w.heap.size w w':=by
 have h64:=hc.le
 go_enter Tryz.func157,Tryz.ntmps157
 go_wp2_with fail
 obtain ⟨w0,hw0,R,Q,N0,N1, -, -,N4, -,hb0⟩:=nW w 1 kd nu ar st nm
 rw[<-hw0]
 clear hw0
 have hn0:w.heap.size<w0.heap.size:=Nat.lt_trans (show w.heap.size<w.heap.size+1 by omega) R.out.lt
 have hnq:¬w.heap.size=w.heap.size+1+1:=by omega
 have hrq:w.heap.size+1≠w.heap.size+1+1:=by omega
 refine (oF _ _ _ _ cols (hc.below hb0) nm).mono ?_
 rintro e w1 ⟨rfl,rfl⟩
 obtain ⟨q0,q1,p0,p1,_⟩:=Q.out
 obtain ⟨r0,r1,s0,s1,_⟩:=R.out
 rcases iY nm cols 0 with hr|⟨hr1,hr2⟩
 ·have HN:Hid (aF cols zs ⟨1,⟨kd,nu,st⟩,nm,ar⟩ xs=(5,default)):=hide (by rw[aF,if_pos rfl,if_pos (by simp only;rw[index,hr];omega)])
  rw[show index cols nm= -1 from hr]
  clear hr
  go_wp2
  refine bodyPost_ret (v:=.tuple #[.agg (Kd.cells ⟨0,false⟩).toArray,.int .i64 5]) (aA (cs:=Kd.cells ⟨0,false⟩) rfl _ _ (w.heap.size+1) _ _ rfl rfl (bO R.out.c0 R.out.c1) Tryz.underlying173 rfl (by kernel_rfl)) rfl ⟨by rw[HN.out];rfl,aV hb0 (by omega) _ _⟩
 ·obtain ⟨j,hj⟩: ∃j:Nat,index cols nm=(j:Int):=⟨(index cols nm).toNat,by rw[index];omega⟩
  have hjn:j<n1:=by have:=hc.len;rw[index]at hj;omega
  obtain ⟨b',off',y,rfl,hB',HY,v0,v1,v2,xx⟩:=hc.col hjn
  have v1:=ah hb0 hB' v1
  have v2:=ah hb0 hB' v2
  have hne:¬b'=w.heap.size+1+1:=by omega
  have HN:Hid (aF cols zs ⟨1,⟨kd,nu,st⟩,nm,ar⟩ xs=(0,⟨y.kind,y.nullable⟩)):=hide (by
   have hy:cols.getD (index cols nm).toNat default=y:=by rw[hj,Int.toNat_natCast,List.getD,(dS HY.out).1];rfl
   rw[aF,if_pos rfl,if_neg (by simp only;rw[hj];omega)]
   simp only
   rw[hy])
  have k0:(0:Int)<=(j:Int):=by omega
  have k1:(j:Int)<(n1:Int):=by omega
  rw[hj]
  clear hr1 hr2 hj
  go_wp2
  go_region_held3 (λV=>V.cell? ⟨b',off'+j*3+1,none⟩=some (.int .i64 y.kind)/\V.cell? ⟨b',off'+j*3+2,none⟩=some (.bool y.nullable)) (first|exact ⟨v1,v2⟩|exact ⟨ae (ae v1 (.inl hne)) (.inl hne),ae (ae v2 (.inl hne)) (.inl hne)⟩) (first|fail)
  obtain ⟨w4,hw4⟩: ∃w4,w4=((w0.setCell ⟨w.heap.size+1+1,0,none⟩ (.int .i64 y.kind)).setCell ⟨w.heap.size+1+1,1,none⟩ (.bool y.nullable)).drew:=⟨_,rfl⟩
  have R:Hid (Zk w4 (w.heap.size+1)):=hide (by rw[hw4];exact (R.out.far hrq _ _).drew)
  have u0:w4.cell? ⟨w.heap.size+1+1,0,none⟩=some (.int .i64 y.kind):=by rw[hw4];exact bO Q.out.c0 Q.out.c1 0 _ rfl
  have u1:w4.cell? ⟨w.heap.size+1+1,1,none⟩=some (.bool y.nullable):=by rw[hw4];exact bO Q.out.c0 Q.out.c1 1 _ rfl
  have hb0:Below w.heap.size w w4:=by rw[hw4];exact (aV hb0 (by omega) _ _).drew
  rw[<-hw4]
  clear hw4 Q
  obtain ⟨r0,r1,s0,s1,_⟩:=R.out
  go_wp2
  refine bodyPost_ret (v:=.tuple #[.agg (Kd.cells ⟨y.kind,y.nullable⟩).toArray,.int .i64 0]) (aA (cs:=Kd.cells ⟨y.kind,y.nullable⟩) rfl _ _ (w.heap.size+1) _ _ rfl rfl (bO R.out.c0 R.out.c1) Tryz.underlying173 rfl (by kernel_rfl)) rfl ⟨by rw[HN.out],aV hb0 (by omega) _ _⟩
theorem Il (kd nu ar:Int)(st nm:ByteArray)(w:World)(A1:Option Addr)(n1 c1:Nat)(cols:List Col)(hc:In w A1 n1 c1 cols)(A2:Option Addr)(n2 c2:Nat)(zs:List Zone)(hz:In w A2 n2 c2 zs)(b off c:Nat)(xk:Int)(xn:Bool)(hx:In w (some ⟨b,off,none⟩) 1 c ([⟨xk,xn⟩]:List Kd))(hz0:0<=fF zs nm):
  Calls Tryz.prog 157 #[.agg #[.int .i64 20,.int .i64 kd,.int .i64 nu,.string st,.string nm,.int .i64 ar],.slice (some ⟨b,off,none⟩) 1 c,.slice A1 n1 c1,.slice A2 n2 c2] w λe w'=>e=.returned (.tuple #[.agg (aF cols zs ⟨20,⟨kd,nu,st⟩,nm,ar⟩ ([⟨xk,xn⟩]:List Kd)).2.cells.toArray,.int .i64 (aF cols zs ⟨20,⟨kd,nu,st⟩,nm,ar⟩ ([⟨xk,xn⟩]:List Kd)).1])/\Below w.heap.size w w':=by
 rcases Bool.eq_false_or_eq_true ((ek 20 ⟨xk,xn⟩).2) with hok|hok
 all_goals
  obtain ⟨hB,x0,x1⟩:=bq hx (show 0<1 by omega) (x:=⟨xk,xn⟩) rfl
  simp only[Nat.zero_mul,Nat.one_mul,Nat.add_zero,Nat.reduceMul]at x0 x1
  first|(have:=(show (ek 20 ⟨xk,xn⟩).2=true from hok);have HN:Hid (aF cols zs ⟨20,⟨kd,nu,st⟩,nm,ar⟩ ([⟨xk,xn⟩]:List Kd)=(0,(ek 20 ⟨xk,xn⟩).1)):=hide (by rw[aF,if_neg (by simp only;omega),if_neg (by simp only;omega),if_neg (λh=>absurd h.2 (by simp only;omega))];rw[if_neg (show ¬(aQ (⟨20,⟨kd,nu,st⟩,nm,ar⟩:Node) ([⟨xk,xn⟩]:List Kd)).2=false from λh=>by have h2:(aQ (⟨20,⟨kd,nu,st⟩,nm,ar⟩:Node) ([⟨xk,xn⟩]:List Kd)).2=true:=hok;rw[h2]at h;cases h)];rfl))|(have HN:Hid (aF cols zs ⟨20,⟨kd,nu,st⟩,nm,ar⟩ ([⟨xk,xn⟩]:List Kd)=(7,default)):=hide (by rw[aF,if_neg (by simp only;omega),if_neg (by simp only;omega),if_neg (λh=>absurd h.2 (by simp only;omega))];rw[if_pos (show (aQ (⟨20,⟨kd,nu,st⟩,nm,ar⟩:Node) ([⟨xk,xn⟩]:List Kd)).2=false from hok)]))
  go_enter Tryz.func157,Tryz.ntmps157
  go_wp2_with fail
  obtain ⟨w0,hw0,R,Q,N0,N1, -, -,N4, -,hb0⟩:=nW w 20 kd nu ar st nm
  rw[<-hw0]
  clear hw0
  have hn0:w.heap.size<w0.heap.size:=Nat.lt_trans (show w.heap.size<w.heap.size+1 by omega) R.out.lt
  have hnq:¬w.heap.size=w.heap.size+1+1:=by omega
  have hrq:w.heap.size+1≠w.heap.size+1+1:=by omega
  have hB0:b<w0.heap.size:=by have:=hb0.size;omega
  have hne:¬b=w.heap.size+1+1:=by omega
  have x0:=ah hb0 hB x0
  have x1:=ah hb0 hB x1
  refine (nY _ _ _ _ zs (hz.below hb0) nm).mono ?_
  rintro e w2 ⟨⟨A3,n3,c3,rfl,yY,ho3⟩,hb1⟩
  have dz:decide (0<=fF zs nm)=true:=by simpa using hz0
  have R:=hide (R.out.below hb1)
  have Q:=hide (Q.out.below hb1)
  have N0:=ah hb1 hn0 N0
  have x0:=ah hb1 hB0 x0
  have x1:=ah hb1 hB0 x1
  have hb0:=aa hb0 hb1
  have hn0:=Nat.lt_of_lt_of_le hn0 hb1.size
  have hB0:=Nat.lt_of_lt_of_le hB0 hb1.size
  clear hb1 yY ho3 hz0
  go_upto_region 22 with (fail)
  obtain ⟨w3,hw3⟩: ∃w3,w3=w2.alloc (.cells #[.string (dn zs nm).name,.int .i64 (dn zs nm).offset,.slice A3 n3 c3] 101):=⟨_,rfl⟩
  have hb1:Below w2.heap.size w2 w3:=by rw[hw3];exact af
  rw[<-hw3]
  clear hw3
  have R:=hide (R.out.below hb1)
  have Q:=hide (Q.out.below hb1)
  have N0:=ah hb1 hn0 N0
  have x0:=ah hb1 hB0 x0
  have x1:=ah hb1 hB0 x1
  have hb0:=aa hb0 hb1
  have hn0:=Nat.lt_of_lt_of_le hn0 hb1.size
  have hB0:=Nat.lt_of_lt_of_le hB0 hb1.size
  clear hb1
  go_region_held3 (λV=>V.cell? ⟨w.heap.size,0,none⟩=some (.int .i64 20)/\V.cell? ⟨b,off,none⟩=some (.int .i64 xk)/\V.cell? ⟨b,off+1,none⟩=some (.bool xn)) (first|exact ⟨N0,x0,x1⟩|exact ⟨N0',x0',x1'⟩|exact ⟨ae (ae N0' (.inl hnq)) (.inl hnq),ae (ae x0' (.inl hne)) (.inl hne),ae (ae x1' (.inl hne)) (.inl hne)⟩|exact ⟨ae (ae N0 (.inl hnq)) (.inl hnq),ae (ae x0 (.inl hne)) (.inl hne),ae (ae x1 (.inl hne)) (.inl hne)⟩) (first|(go_at_call 188;refine (BL 20 (by omega) xk xn _).mono ?_;rintro e w1 ⟨⟨⟨kk,kn⟩,rfl,hk⟩,hb1⟩;have HK:=hide hk;clear hk;rw[hok];simp only[Kd.cells];have hq:=ag hb1;have N0':=ah hq hn0 N0;have x0':=ah hq hB0 x0;have x1':=ah hq hB0 x1;have R:=hide (R.out.below hq);have Q:=hide (Q.out.below hq);have hb0:=aa hb0 hq;clear hb1;obtain ⟨q0,q1,p0,p1,_⟩:=Q.out;obtain ⟨r0,r1,s0,s1,_⟩:=R.out))
  obtain ⟨w4,hw4⟩: ∃w4,w4=(w1.setCell ⟨w.heap.size+1+1,0,none⟩ (.int .i64 kk)).setCell ⟨w.heap.size+1+1,1,none⟩ (.bool kn):=⟨_,rfl⟩
  have R:Hid (Zk w4 (w.heap.size+1)):=hide (by rw[hw4];exact R.out.far hrq _ _)
  have u0:w4.cell? ⟨w.heap.size+1+1,0,none⟩=some (.int .i64 kk):=by rw[hw4];exact bO Q.out.c0 Q.out.c1 0 _ rfl
  have u1:w4.cell? ⟨w.heap.size+1+1,1,none⟩=some (.bool kn):=by rw[hw4];exact bO Q.out.c0 Q.out.c1 1 _ rfl
  have hb0:Below w.heap.size w w4:=by rw[hw4];exact aV hb0 (by omega) _ _
  rw[<-hw4]
  clear hw4 Q
  obtain ⟨r0,r1,s0,s1,_⟩:=R.out
  go_wp2
  first|(have:=(show (ek 20 ⟨xk,xn⟩).2=true from hok);refine bodyPost_ret (v:=.tuple #[.agg (Kd.cells ⟨kk,kn⟩).toArray,.int .i64 0]) (aA (cs:=Kd.cells ⟨kk,kn⟩) rfl _ _ (w.heap.size+1) _ _ rfl rfl (bO R.out.c0 R.out.c1) Tryz.underlying173 rfl (by kernel_rfl)) rfl ⟨by rw[HN.out,<-HK.out hok],aV hb0 (by omega) _ _⟩)|(refine bodyPost_ret (v:=.tuple #[.agg (Kd.cells ⟨0,false⟩).toArray,.int .i64 7]) (aA (cs:=Kd.cells ⟨0,false⟩) rfl _ _ (w.heap.size+1) _ _ rfl rfl (bO R.out.c0 R.out.c1) Tryz.underlying173 rfl (by kernel_rfl)) rfl ⟨by rw[HN.out];rfl,aV hb0 (by omega) _ _⟩)
theorem MH (kd nu ar:Int)(st nm:ByteArray)(w:World)(A1:Option Addr)(n1 c1:Nat)(cols:List Col)(hc:In w A1 n1 c1 cols)(A2:Option Addr)(n2 c2:Nat)(zs:List Zone)(hz:In w A2 n2 c2 zs)(A:Option Addr)(m c:Nat)(xs:List Kd)(hz0:fF zs nm<0):
  Calls Tryz.prog 157 #[.agg #[.int .i64 20,.int .i64 kd,.int .i64 nu,.string st,.string nm,.int .i64 ar],.slice A m c,.slice A1 n1 c1,.slice A2 n2 c2] w λe w'=>e=.returned (.tuple #[.agg (aF cols zs ⟨20,⟨kd,nu,st⟩,nm,ar⟩ xs).2.cells.toArray,.int .i64 (aF cols zs ⟨20,⟨kd,nu,st⟩,nm,ar⟩ xs).1])/\Below w.heap.size w w':=by
 have HN:Hid (aF cols zs ⟨20,⟨kd,nu,st⟩,nm,ar⟩ xs=(5,default)):=hide (by rw[aF,if_neg (by simp only;omega),if_neg (by simp only;omega),if_pos ⟨rfl,hz0⟩])
 go_enter Tryz.func157,Tryz.ntmps157
 go_wp2_with fail
 obtain ⟨w0,hw0,R,Q,N0,N1, -, -,N4, -,hb0⟩:=nW w 20 kd nu ar st nm
 rw[<-hw0]
 clear hw0
 have hn0:w.heap.size<w0.heap.size:=Nat.lt_trans (show w.heap.size<w.heap.size+1 by omega) R.out.lt
 have hnq:¬w.heap.size=w.heap.size+1+1:=by omega
 have hrq:w.heap.size+1≠w.heap.size+1+1:=by omega
 refine (nY _ _ _ _ zs (hz.below hb0) nm).mono ?_
 rintro e w2 ⟨⟨A3,n3,c3,rfl,yY,ho3⟩,hb1⟩
 have dz:decide (0<=fF zs nm)=false:=by simp;omega
 have R:=hide (R.out.below hb1)
 have hb0:=aa hb0 hb1
 clear hb1 yY ho3 hz0
 obtain ⟨w3,hw3⟩: ∃w3,w3=w2.alloc (.cells #[.string (dn zs nm).name,.int .i64 (dn zs nm).offset,.slice A3 n3 c3] 101):=⟨_,rfl⟩
 have hb1:Below w2.heap.size w2 w3:=by rw[hw3];exact af
 go_upto_region 21 with (fail)
 rw[<-hw3]
 clear hw3
 have R:=hide (R.out.below hb1)
 have hb0:=aa hb0 hb1
 clear hb1
 obtain ⟨r0,r1,s0,s1,_⟩:=R.out
 go_wp2
 refine bodyPost_ret (v:=.tuple #[.agg (Kd.cells ⟨0,false⟩).toArray,.int .i64 5]) (aA (cs:=Kd.cells ⟨0,false⟩) rfl _ _ (w.heap.size+1) _ _ rfl rfl (bO R.out.c0 R.out.c1) Tryz.underlying173 rfl (by kernel_rfl)) rfl ⟨by rw[HN.out];rfl,aV hb0 (by omega) _ _⟩
theorem Gv (kd nu ar:Int)(st nm:ByteArray)(w:World)(A1:Option Addr)(n1 c1:Nat)(cols:List Col)(hc:In w A1 n1 c1 cols)(A2:Option Addr)(n2 c2:Nat)(zs:List Zone)(hz:In w A2 n2 c2 zs)(b off c:Nat)(xk:Int)(xn:Bool)(yk:Int)(zk:Int)(zn:Bool)(hx:In w (some ⟨b,off,none⟩) 3 c ([⟨xk,xn⟩,⟨yk,false⟩,⟨zk,zn⟩]:List Kd))(hco:(common ⟨yk,false⟩ ⟨zk,zn⟩).2=false):
  Calls Tryz.prog 157 #[.agg #[.int .i64 17,.int .i64 kd,.int .i64 nu,.string st,.string nm,.int .i64 ar],.slice (some ⟨b,off,none⟩) 3 c,.slice A1 n1 c1,.slice A2 n2 c2] w λe w'=>e=.returned (.tuple #[.agg (aF cols zs ⟨17,⟨kd,nu,st⟩,nm,ar⟩ ([⟨xk,xn⟩,⟨yk,false⟩,⟨zk,zn⟩]:List Kd)).2.cells.toArray,.int .i64 (aF cols zs ⟨17,⟨kd,nu,st⟩,nm,ar⟩ ([⟨xk,xn⟩,⟨yk,false⟩,⟨zk,zn⟩]:List Kd)).1])/\Below w.heap.size w w':=by
 obtain ⟨hB,x0,x1⟩:=bq hx (show 0<3 by omega) (x:=⟨xk,xn⟩) rfl
 obtain ⟨hB,y0,y1⟩:=bq hx (show 1<3 by omega) (x:=⟨yk,false⟩) rfl
 obtain ⟨hB,z0,z1⟩:=bq hx (show 2<3 by omega) (x:=⟨zk,zn⟩) rfl
 simp only[Nat.zero_mul,Nat.one_mul,Nat.add_zero,Nat.reduceMul]at x0 x1 y0 y1 z0 z1
 have HN:Hid (aF cols zs ⟨17,⟨kd,nu,st⟩,nm,ar⟩ ([⟨xk,xn⟩,⟨yk,false⟩,⟨zk,zn⟩]:List Kd)=(7,default)):=hide (by rw[aF,if_neg (by simp only;omega),if_neg (by simp only;omega),if_neg (λh=>absurd h.1 (by simp only;omega)),if_pos (show (aQ (⟨17,⟨kd,nu,st⟩,nm,ar⟩:Node) ([⟨xk,xn⟩,⟨yk,false⟩,⟨zk,zn⟩]:List Kd)).2=false from by show ((common ⟨yk,false⟩ ⟨zk,zn⟩).2&&fits ⟨xk,xn⟩ 1)=false;rw[hco];rfl)])
 go_enter Tryz.func157,Tryz.ntmps157
 go_upto_region 16 with (fail)
 obtain ⟨w0,hw0,R,Q,N0,N1, -, -,N4, -,hb0⟩:=nW w 17 kd nu ar st nm
 rw[<-hw0]
 clear hw0
 have hn0:w.heap.size<w0.heap.size:=Nat.lt_trans (show w.heap.size<w.heap.size+1 by omega) R.out.lt
 have hnq:¬w.heap.size=w.heap.size+1+1:=by omega
 have hrq:w.heap.size+1≠w.heap.size+1+1:=by omega
 have hB0:b<w0.heap.size:=by have:=hb0.size;omega
 have hne:¬b=w.heap.size+1+1:=by omega
 have x0:=ah hb0 hB x0
 have x1:=ah hb0 hB x1
 have y0:=ah hb0 hB y0
 have y1:=ah hb0 hB y1
 have z0:=ah hb0 hB z0
 have z1:=ah hb0 hB z1
 go_region_held3 (λV=>V.cell? ⟨b,off,none⟩=some (.int .i64 xk)/\V.cell? ⟨b,off+1,none⟩=some (.bool xn)/\V.cell? ⟨b,off+2,none⟩=some (.int .i64 yk)/\V.cell? ⟨b,off+2+1,none⟩=some (.bool false)/\V.cell? ⟨b,off+4,none⟩=some (.int .i64 zk)/\V.cell? ⟨b,off+4+1,none⟩=some (.bool zn)) (first|exact ⟨x0,x1,y0,y1,z0,z1⟩|exact ⟨x0',x1',y0',y1',z0',z1'⟩|exact ⟨ae (ae x0' (.inl hne)) (.inl hne),ae (ae x1' (.inl hne)) (.inl hne),ae (ae y0' (.inl hne)) (.inl hne),ae (ae y1' (.inl hne)) (.inl hne),ae (ae z0' (.inl hne)) (.inl hne),ae (ae z1' (.inl hne)) (.inl hne)⟩|exact ⟨ae (ae x0 (.inl hne)) (.inl hne),ae (ae x1 (.inl hne)) (.inl hne),ae (ae y0 (.inl hne)) (.inl hne),ae (ae y1 (.inl hne)) (.inl hne),ae (ae z0 (.inl hne)) (.inl hne),ae (ae z1 (.inl hne)) (.inl hne)⟩) (first|(go_at_call 185;refine (ic _ _ _ _ _).mono ?_;rintro e w1 ⟨rfl,hb1⟩;rw[hco];generalize hck:(common ⟨yk,false⟩ ⟨zk,zn⟩).1=ck;have RQ:=hide hck;clear hck;have hq:=ag hb1;have x0':=ah hq hB0 x0;have x1':=ah hq hB0 x1;have y0':=ah hq hB0 y0;have y1':=ah hq hB0 y1;have z0':=ah hq hB0 z0;have z1':=ah hq hB0 z1;have R:=hide (R.out.below hq);have Q:=hide (Q.out.below hq);have hb0:=aa hb0 hq;clear hb1;obtain ⟨q0,q1,p0,p1,_⟩:=Q.out;obtain ⟨r0,r1,s0,s1,_⟩:=R.out))
 have x0:=x0'
 have x1:=x1'
 have y0:=y0'
 have y1:=y1'
 have z0:=z0'
 have z1:=z1'
 clear x0' x1' y0' y1' z0' z1'
 have hB0:=Nat.lt_of_lt_of_le hB0 hq.size
 have hn0:=Nat.lt_of_lt_of_le hn0 hq.size
 clear hq
 go_upto_region 17 with (fail)
 go_region
 all_goals
  obtain ⟨w4,hw4⟩: ∃w4,w4=((w1.setCell ⟨w.heap.size+1+1,0,none⟩ (.int .i64 ck)).setCell ⟨w.heap.size+1+1,1,none⟩ (.bool zn)).drew:=⟨_,rfl⟩
  have R:Hid (Zk w4 (w.heap.size+1)):=hide (by rw[hw4];exact (R.out.far hrq _ _).drew)
  have u0:w4.cell? ⟨w.heap.size+1+1,0,none⟩=some (.int .i64 ck):=by rw[hw4];exact bO Q.out.c0 Q.out.c1 0 _ rfl
  have u1:w4.cell? ⟨w.heap.size+1+1,1,none⟩=some (.bool zn):=by rw[hw4];exact bO Q.out.c0 Q.out.c1 1 _ rfl
  have hb0:Below w.heap.size w w4:=by rw[hw4];exact (aV hb0 (by omega) _ _).drew
  rw[<-hw4]
  clear hw4 Q
  obtain ⟨r0,r1,s0,s1,_⟩:=R.out
  go_wp2
  refine bodyPost_ret (v:=.tuple #[.agg (Kd.cells ⟨0,false⟩).toArray,.int .i64 7]) (aA (cs:=Kd.cells ⟨0,false⟩) rfl _ _ (w.heap.size+1) _ _ rfl rfl (bO R.out.c0 R.out.c1) Tryz.underlying173 rfl (by kernel_rfl)) rfl ⟨by rw[HN.out];rfl,aV hb0 (by omega) _ _⟩
theorem Gw (kd nu ar:Int)(st nm:ByteArray)(w:World)(A1:Option Addr)(n1 c1:Nat)(cols:List Col)(hc:In w A1 n1 c1 cols)(A2:Option Addr)(n2 c2:Nat)(zs:List Zone)(hz:In w A2 n2 c2 zs)(b off c:Nat)(xk:Int)(xn:Bool)(yk:Int)(zk:Int)(zn:Bool)(hx:In w (some ⟨b,off,none⟩) 3 c ([⟨xk,xn⟩,⟨yk,true⟩,⟨zk,zn⟩]:List Kd))(hco:(common ⟨yk,true⟩ ⟨zk,zn⟩).2=false):
  Calls Tryz.prog 157 #[.agg #[.int .i64 17,.int .i64 kd,.int .i64 nu,.string st,.string nm,.int .i64 ar],.slice (some ⟨b,off,none⟩) 3 c,.slice A1 n1 c1,.slice A2 n2 c2] w λe w'=>e=.returned (.tuple #[.agg (aF cols zs ⟨17,⟨kd,nu,st⟩,nm,ar⟩ ([⟨xk,xn⟩,⟨yk,true⟩,⟨zk,zn⟩]:List Kd)).2.cells.toArray,.int .i64 (aF cols zs ⟨17,⟨kd,nu,st⟩,nm,ar⟩ ([⟨xk,xn⟩,⟨yk,true⟩,⟨zk,zn⟩]:List Kd)).1])/\Below w.heap.size w w':=by
 obtain ⟨hB,x0,x1⟩:=bq hx (show 0<3 by omega) (x:=⟨xk,xn⟩) rfl
 obtain ⟨hB,y0,y1⟩:=bq hx (show 1<3 by omega) (x:=⟨yk,true⟩) rfl
 obtain ⟨hB,z0,z1⟩:=bq hx (show 2<3 by omega) (x:=⟨zk,zn⟩) rfl
 simp only[Nat.zero_mul,Nat.one_mul,Nat.add_zero,Nat.reduceMul]at x0 x1 y0 y1 z0 z1
 have HN:Hid (aF cols zs ⟨17,⟨kd,nu,st⟩,nm,ar⟩ ([⟨xk,xn⟩,⟨yk,true⟩,⟨zk,zn⟩]:List Kd)=(7,default)):=hide (by rw[aF,if_neg (by simp only;omega),if_neg (by simp only;omega),if_neg (λh=>absurd h.1 (by simp only;omega)),if_pos (show (aQ (⟨17,⟨kd,nu,st⟩,nm,ar⟩:Node) ([⟨xk,xn⟩,⟨yk,true⟩,⟨zk,zn⟩]:List Kd)).2=false from by show ((common ⟨yk,true⟩ ⟨zk,zn⟩).2&&fits ⟨xk,xn⟩ 1)=false;rw[hco];rfl)])
 go_enter Tryz.func157,Tryz.ntmps157
 go_upto_region 16 with (fail)
 obtain ⟨w0,hw0,R,Q,N0,N1, -, -,N4, -,hb0⟩:=nW w 17 kd nu ar st nm
 rw[<-hw0]
 clear hw0
 have hn0:w.heap.size<w0.heap.size:=Nat.lt_trans (show w.heap.size<w.heap.size+1 by omega) R.out.lt
 have hnq:¬w.heap.size=w.heap.size+1+1:=by omega
 have hrq:w.heap.size+1≠w.heap.size+1+1:=by omega
 have hB0:b<w0.heap.size:=by have:=hb0.size;omega
 have hne:¬b=w.heap.size+1+1:=by omega
 have x0:=ah hb0 hB x0
 have x1:=ah hb0 hB x1
 have y0:=ah hb0 hB y0
 have y1:=ah hb0 hB y1
 have z0:=ah hb0 hB z0
 have z1:=ah hb0 hB z1
 go_region_held3 (λV=>V.cell? ⟨b,off,none⟩=some (.int .i64 xk)/\V.cell? ⟨b,off+1,none⟩=some (.bool xn)/\V.cell? ⟨b,off+2,none⟩=some (.int .i64 yk)/\V.cell? ⟨b,off+2+1,none⟩=some (.bool true)/\V.cell? ⟨b,off+4,none⟩=some (.int .i64 zk)/\V.cell? ⟨b,off+4+1,none⟩=some (.bool zn)) (first|exact ⟨x0,x1,y0,y1,z0,z1⟩|exact ⟨x0',x1',y0',y1',z0',z1'⟩|exact ⟨ae (ae x0' (.inl hne)) (.inl hne),ae (ae x1' (.inl hne)) (.inl hne),ae (ae y0' (.inl hne)) (.inl hne),ae (ae y1' (.inl hne)) (.inl hne),ae (ae z0' (.inl hne)) (.inl hne),ae (ae z1' (.inl hne)) (.inl hne)⟩|exact ⟨ae (ae x0 (.inl hne)) (.inl hne),ae (ae x1 (.inl hne)) (.inl hne),ae (ae y0 (.inl hne)) (.inl hne),ae (ae y1 (.inl hne)) (.inl hne),ae (ae z0 (.inl hne)) (.inl hne),ae (ae z1 (.inl hne)) (.inl hne)⟩) (first|(go_at_call 185;refine (ic _ _ _ _ _).mono ?_;rintro e w1 ⟨rfl,hb1⟩;rw[hco];generalize hck:(common ⟨yk,true⟩ ⟨zk,zn⟩).1=ck;have RQ:=hide hck;clear hck;have hq:=ag hb1;have x0':=ah hq hB0 x0;have x1':=ah hq hB0 x1;have y0':=ah hq hB0 y0;have y1':=ah hq hB0 y1;have z0':=ah hq hB0 z0;have z1':=ah hq hB0 z1;have R:=hide (R.out.below hq);have Q:=hide (Q.out.below hq);have hb0:=aa hb0 hq;clear hb1;obtain ⟨q0,q1,p0,p1,_⟩:=Q.out;obtain ⟨r0,r1,s0,s1,_⟩:=R.out))
 have x0:=x0'
 have x1:=x1'
 have y0:=y0'
 have y1:=y1'
 have z0:=z0'
 have z1:=z1'
 clear x0' x1' y0' y1' z0' z1'
 have hB0:=Nat.lt_of_lt_of_le hB0 hq.size
 have hn0:=Nat.lt_of_lt_of_le hn0 hq.size
 clear hq
 go_upto_region 17 with (fail)
 go_region
 all_goals
  obtain ⟨w4,hw4⟩: ∃w4,w4=((w1.setCell ⟨w.heap.size+1+1,0,none⟩ (.int .i64 ck)).setCell ⟨w.heap.size+1+1,1,none⟩ (.bool true)).drew:=⟨_,rfl⟩
  have R:Hid (Zk w4 (w.heap.size+1)):=hide (by rw[hw4];exact (R.out.far hrq _ _).drew)
  have u0:w4.cell? ⟨w.heap.size+1+1,0,none⟩=some (.int .i64 ck):=by rw[hw4];exact bO Q.out.c0 Q.out.c1 0 _ rfl
  have u1:w4.cell? ⟨w.heap.size+1+1,1,none⟩=some (.bool true):=by rw[hw4];exact bO Q.out.c0 Q.out.c1 1 _ rfl
  have hb0:Below w.heap.size w w4:=by rw[hw4];exact (aV hb0 (by omega) _ _).drew
  rw[<-hw4]
  clear hw4 Q
  obtain ⟨r0,r1,s0,s1,_⟩:=R.out
  go_wp2
  refine bodyPost_ret (v:=.tuple #[.agg (Kd.cells ⟨0,false⟩).toArray,.int .i64 7]) (aA (cs:=Kd.cells ⟨0,false⟩) rfl _ _ (w.heap.size+1) _ _ rfl rfl (bO R.out.c0 R.out.c1) Tryz.underlying173 rfl (by kernel_rfl)) rfl ⟨by rw[HN.out];rfl,aV hb0 (by omega) _ _⟩
theorem zA (kd nu ar:Int)(st nm:ByteArray)(w:World)(A1:Option Addr)(n1 c1:Nat)(cols:List Col)(hc:In w A1 n1 c1 cols)(A2:Option Addr)(n2 c2:Nat)(zs:List Zone)(hz:In w A2 n2 c2 zs)(b off c:Nat)(xk:Int)(xn:Bool)(yk:Int)(zk:Int)(zn:Bool)(hx:In w (some ⟨b,off,none⟩) 3 c ([⟨xk,xn⟩,⟨yk,false⟩,⟨zk,zn⟩]:List Kd))(hco:(common ⟨yk,false⟩ ⟨zk,zn⟩).2=true):
  Calls Tryz.prog 157 #[.agg #[.int .i64 17,.int .i64 kd,.int .i64 nu,.string st,.string nm,.int .i64 ar],.slice (some ⟨b,off,none⟩) 3 c,.slice A1 n1 c1,.slice A2 n2 c2] w λe w'=>e=.returned (.tuple #[.agg (aF cols zs ⟨17,⟨kd,nu,st⟩,nm,ar⟩ ([⟨xk,xn⟩,⟨yk,false⟩,⟨zk,zn⟩]:List Kd)).2.cells.toArray,.int .i64 (aF cols zs ⟨17,⟨kd,nu,st⟩,nm,ar⟩ ([⟨xk,xn⟩,⟨yk,false⟩,⟨zk,zn⟩]:List Kd)).1])/\Below w.heap.size w w':=by
 rcases Bool.eq_false_or_eq_true (fits ⟨xk,xn⟩ 1) with hf|hf
 all_goals
  obtain ⟨hB,x0,x1⟩:=bq hx (show 0<3 by omega) (x:=⟨xk,xn⟩) rfl
  obtain ⟨hB,y0,y1⟩:=bq hx (show 1<3 by omega) (x:=⟨yk,false⟩) rfl
  obtain ⟨hB,z0,z1⟩:=bq hx (show 2<3 by omega) (x:=⟨zk,zn⟩) rfl
  simp only[Nat.zero_mul,Nat.one_mul,Nat.add_zero,Nat.reduceMul]at x0 x1 y0 y1 z0 z1
  first|(have:=(show fits ⟨xk,xn⟩ 1=true from hf);have HN:Hid (aF cols zs ⟨17,⟨kd,nu,st⟩,nm,ar⟩ ([⟨xk,xn⟩,⟨yk,false⟩,⟨zk,zn⟩]:List Kd)=(0,⟨(common ⟨yk,false⟩ ⟨zk,zn⟩).1,false || zn⟩)):=hide (by rw[aF,if_neg (by simp only;omega),if_neg (by simp only;omega),if_neg (λh=>absurd h.1 (by simp only;omega)),if_neg (show ¬(aQ (⟨17,⟨kd,nu,st⟩,nm,ar⟩:Node) ([⟨xk,xn⟩,⟨yk,false⟩,⟨zk,zn⟩]:List Kd)).2=false from λh=>by have h2:((common ⟨yk,false⟩ ⟨zk,zn⟩).2&&fits ⟨xk,xn⟩ 1)=false:=h;rw[hco,hf]at h2;cases h2)];rfl))|(have HN:Hid (aF cols zs ⟨17,⟨kd,nu,st⟩,nm,ar⟩ ([⟨xk,xn⟩,⟨yk,false⟩,⟨zk,zn⟩]:List Kd)=(7,default)):=hide (by rw[aF,if_neg (by simp only;omega),if_neg (by simp only;omega),if_neg (λh=>absurd h.1 (by simp only;omega)),if_pos (show (aQ (⟨17,⟨kd,nu,st⟩,nm,ar⟩:Node) ([⟨xk,xn⟩,⟨yk,false⟩,⟨zk,zn⟩]:List Kd)).2=false from by show ((common ⟨yk,false⟩ ⟨zk,zn⟩).2&&fits ⟨xk,xn⟩ 1)=false;rw[hco,hf];rfl)]))
  go_enter Tryz.func157,Tryz.ntmps157
  go_upto_region 16 with (fail)
  obtain ⟨w0,hw0,R,Q,N0,N1, -, -,N4, -,hb0⟩:=nW w 17 kd nu ar st nm
  rw[<-hw0]
  clear hw0
  have hn0:w.heap.size<w0.heap.size:=Nat.lt_trans (show w.heap.size<w.heap.size+1 by omega) R.out.lt
  have hnq:¬w.heap.size=w.heap.size+1+1:=by omega
  have hrq:w.heap.size+1≠w.heap.size+1+1:=by omega
  have hB0:b<w0.heap.size:=by have:=hb0.size;omega
  have hne:¬b=w.heap.size+1+1:=by omega
  have x0:=ah hb0 hB x0
  have x1:=ah hb0 hB x1
  have y0:=ah hb0 hB y0
  have y1:=ah hb0 hB y1
  have z0:=ah hb0 hB z0
  have z1:=ah hb0 hB z1
  go_region_held3 (λV=>V.cell? ⟨b,off,none⟩=some (.int .i64 xk)/\V.cell? ⟨b,off+1,none⟩=some (.bool xn)/\V.cell? ⟨b,off+2,none⟩=some (.int .i64 yk)/\V.cell? ⟨b,off+2+1,none⟩=some (.bool false)/\V.cell? ⟨b,off+4,none⟩=some (.int .i64 zk)/\V.cell? ⟨b,off+4+1,none⟩=some (.bool zn)) (first|exact ⟨x0,x1,y0,y1,z0,z1⟩|exact ⟨x0',x1',y0',y1',z0',z1'⟩|exact ⟨ae (ae x0' (.inl hne)) (.inl hne),ae (ae x1' (.inl hne)) (.inl hne),ae (ae y0' (.inl hne)) (.inl hne),ae (ae y1' (.inl hne)) (.inl hne),ae (ae z0' (.inl hne)) (.inl hne),ae (ae z1' (.inl hne)) (.inl hne)⟩|exact ⟨ae (ae x0 (.inl hne)) (.inl hne),ae (ae x1 (.inl hne)) (.inl hne),ae (ae y0 (.inl hne)) (.inl hne),ae (ae y1 (.inl hne)) (.inl hne),ae (ae z0 (.inl hne)) (.inl hne),ae (ae z1 (.inl hne)) (.inl hne)⟩) (first|(go_at_call 185;refine (ic _ _ _ _ _).mono ?_;rintro e w1 ⟨rfl,hb1⟩;rw[hco];generalize hck:(common ⟨yk,false⟩ ⟨zk,zn⟩).1=ck;have RQ:=hide hck;clear hck;have hq:=ag hb1;have x0':=ah hq hB0 x0;have x1':=ah hq hB0 x1;have y0':=ah hq hB0 y0;have y1':=ah hq hB0 y1;have z0':=ah hq hB0 z0;have z1':=ah hq hB0 z1;have R:=hide (R.out.below hq);have Q:=hide (Q.out.below hq);have hb0:=aa hb0 hq;clear hb1;obtain ⟨q0,q1,p0,p1,_⟩:=Q.out;obtain ⟨r0,r1,s0,s1,_⟩:=R.out))
  have x0:=x0'
  have x1:=x1'
  have y0:=y0'
  have y1:=y1'
  have z0:=z0'
  have z1:=z1'
  clear x0' x1' y0' y1' z0' z1'
  have hB0:=Nat.lt_of_lt_of_le hB0 hq.size
  have hn0:=Nat.lt_of_lt_of_le hn0 hq.size
  clear hq
  go_upto_region 17 with (fail)
  go_region_held3 (λV=>V.cell? ⟨b,off,none⟩=some (.int .i64 xk)/\V.cell? ⟨b,off+1,none⟩=some (.bool xn)/\V.cell? ⟨b,off+2+1,none⟩=some (.bool false)/\V.cell? ⟨b,off+4+1,none⟩=some (.bool zn)) (first|exact ⟨x0,x1,y1,z1⟩|exact ⟨x0',x1',y1',z1'⟩|exact ⟨ae (ae x0' (.inl hne)) (.inl hne),ae (ae x1' (.inl hne)) (.inl hne),ae (ae y1' (.inl hne)) (.inl hne),ae (ae z1' (.inl hne)) (.inl hne)⟩|exact ⟨ae (ae x0 (.inl hne)) (.inl hne),ae (ae x1 (.inl hne)) (.inl hne),ae (ae y1 (.inl hne)) (.inl hne),ae (ae z1 (.inl hne)) (.inl hne)⟩) (first|(go_at_call 186;refine (eD _ _ _ _).mono ?_;rintro e w2 ⟨rfl,hb1⟩;rw[hf];have hq:=ag hb1;have x0':=ah hq hB0 x0;have x1':=ah hq hB0 x1;have y1':=ah hq hB0 y1;have z1':=ah hq hB0 z1;have R:=hide (R.out.below hq);have Q:=hide (Q.out.below hq);have hb0:=aa hb0 hq;clear hb1;obtain ⟨q0,q1,p0,p1,_⟩:=Q.out;obtain ⟨r0,r1,s0,s1,_⟩:=R.out))
  obtain ⟨w4,hw4⟩: ∃w4,w4=(w2.setCell ⟨w.heap.size+1+1,0,none⟩ (.int .i64 ck)).setCell ⟨w.heap.size+1+1,1,none⟩ (.bool zn):=⟨_,rfl⟩
  have R:Hid (Zk w4 (w.heap.size+1)):=hide (by rw[hw4];exact R.out.far hrq _ _)
  have u0:w4.cell? ⟨w.heap.size+1+1,0,none⟩=some (.int .i64 ck):=by rw[hw4];exact bO Q.out.c0 Q.out.c1 0 _ rfl
  have u1:w4.cell? ⟨w.heap.size+1+1,1,none⟩=some (.bool zn):=by rw[hw4];exact bO Q.out.c0 Q.out.c1 1 _ rfl
  have hb0:Below w.heap.size w w4:=by rw[hw4];exact aV hb0 (by omega) _ _
  rw[<-hw4]
  clear hw4 Q
  obtain ⟨r0,r1,s0,s1,_⟩:=R.out
  go_wp2
  first|(have:=(show fits ⟨xk,xn⟩ 1=true from hf);refine bodyPost_ret (v:=.tuple #[.agg (Kd.cells ⟨ck,zn⟩).toArray,.int .i64 0]) (aA (cs:=Kd.cells ⟨ck,zn⟩) rfl _ _ (w.heap.size+1) _ _ rfl rfl (bO R.out.c0 R.out.c1) Tryz.underlying173 rfl (by kernel_rfl)) rfl ⟨by rw[HN.out,RQ.out];rfl,aV hb0 (by omega) _ _⟩)|(refine bodyPost_ret (v:=.tuple #[.agg (Kd.cells ⟨0,false⟩).toArray,.int .i64 7]) (aA (cs:=Kd.cells ⟨0,false⟩) rfl _ _ (w.heap.size+1) _ _ rfl rfl (bO R.out.c0 R.out.c1) Tryz.underlying173 rfl (by kernel_rfl)) rfl ⟨by rw[HN.out];rfl,aV hb0 (by omega) _ _⟩)
theorem EL (kd nu ar:Int)(st nm:ByteArray)(w:World)(A1:Option Addr)(n1 c1:Nat)(cols:List Col)(hc:In w A1 n1 c1 cols)(A2:Option Addr)(n2 c2:Nat)(zs:List Zone)(hz:In w A2 n2 c2 zs)(b off c:Nat)(xk:Int)(xn:Bool)(yk:Int)(zk:Int)(zn:Bool)(hx:In w (some ⟨b,off,none⟩) 3 c ([⟨xk,xn⟩,⟨yk,true⟩,⟨zk,zn⟩]:List Kd))(hco:(common ⟨yk,true⟩ ⟨zk,zn⟩).2=true)(hf:fits ⟨xk,xn⟩ 1=true):
  Calls Tryz.prog 157 #[.agg #[.int .i64 17,.int .i64 kd,.int .i64 nu,.string st,.string nm,.int .i64 ar],.slice (some ⟨b,off,none⟩) 3 c,.slice A1 n1 c1,.slice A2 n2 c2] w λe w'=>e=.returned (.tuple #[.agg (aF cols zs ⟨17,⟨kd,nu,st⟩,nm,ar⟩ ([⟨xk,xn⟩,⟨yk,true⟩,⟨zk,zn⟩]:List Kd)).2.cells.toArray,.int .i64 (aF cols zs ⟨17,⟨kd,nu,st⟩,nm,ar⟩ ([⟨xk,xn⟩,⟨yk,true⟩,⟨zk,zn⟩]:List Kd)).1])/\Below w.heap.size w w':=by
 obtain ⟨hB,x0,x1⟩:=bq hx (show 0<3 by omega) (x:=⟨xk,xn⟩) rfl
 obtain ⟨hB,y0,y1⟩:=bq hx (show 1<3 by omega) (x:=⟨yk,true⟩) rfl
 obtain ⟨hB,z0,z1⟩:=bq hx (show 2<3 by omega) (x:=⟨zk,zn⟩) rfl
 simp only[Nat.zero_mul,Nat.one_mul,Nat.add_zero,Nat.reduceMul]at x0 x1 y0 y1 z0 z1
 have HN:Hid (aF cols zs ⟨17,⟨kd,nu,st⟩,nm,ar⟩ ([⟨xk,xn⟩,⟨yk,true⟩,⟨zk,zn⟩]:List Kd)=(0,⟨(common ⟨yk,true⟩ ⟨zk,zn⟩).1,true || zn⟩)):=hide (by rw[aF,if_neg (by simp only;omega),if_neg (by simp only;omega),if_neg (λh=>absurd h.1 (by simp only;omega)),if_neg (show ¬(aQ (⟨17,⟨kd,nu,st⟩,nm,ar⟩:Node) ([⟨xk,xn⟩,⟨yk,true⟩,⟨zk,zn⟩]:List Kd)).2=false from λh=>by have h2:((common ⟨yk,true⟩ ⟨zk,zn⟩).2&&fits ⟨xk,xn⟩ 1)=false:=h;rw[hco,hf]at h2;cases h2)];rfl)
 go_enter Tryz.func157,Tryz.ntmps157
 go_upto_region 16 with (fail)
 obtain ⟨w0,hw0,R,Q,N0,N1, -, -,N4, -,hb0⟩:=nW w 17 kd nu ar st nm
 rw[<-hw0]
 clear hw0
 have hn0:w.heap.size<w0.heap.size:=Nat.lt_trans (show w.heap.size<w.heap.size+1 by omega) R.out.lt
 have hnq:¬w.heap.size=w.heap.size+1+1:=by omega
 have hrq:w.heap.size+1≠w.heap.size+1+1:=by omega
 have hB0:b<w0.heap.size:=by have:=hb0.size;omega
 have hne:¬b=w.heap.size+1+1:=by omega
 have x0:=ah hb0 hB x0
 have x1:=ah hb0 hB x1
 have y0:=ah hb0 hB y0
 have y1:=ah hb0 hB y1
 have z0:=ah hb0 hB z0
 have z1:=ah hb0 hB z1
 go_region_held3 (λV=>V.cell? ⟨b,off,none⟩=some (.int .i64 xk)/\V.cell? ⟨b,off+1,none⟩=some (.bool xn)/\V.cell? ⟨b,off+2,none⟩=some (.int .i64 yk)/\V.cell? ⟨b,off+2+1,none⟩=some (.bool true)/\V.cell? ⟨b,off+4,none⟩=some (.int .i64 zk)/\V.cell? ⟨b,off+4+1,none⟩=some (.bool zn)) (first|exact ⟨x0,x1,y0,y1,z0,z1⟩|exact ⟨x0',x1',y0',y1',z0',z1'⟩|exact ⟨ae (ae x0' (.inl hne)) (.inl hne),ae (ae x1' (.inl hne)) (.inl hne),ae (ae y0' (.inl hne)) (.inl hne),ae (ae y1' (.inl hne)) (.inl hne),ae (ae z0' (.inl hne)) (.inl hne),ae (ae z1' (.inl hne)) (.inl hne)⟩|exact ⟨ae (ae x0 (.inl hne)) (.inl hne),ae (ae x1 (.inl hne)) (.inl hne),ae (ae y0 (.inl hne)) (.inl hne),ae (ae y1 (.inl hne)) (.inl hne),ae (ae z0 (.inl hne)) (.inl hne),ae (ae z1 (.inl hne)) (.inl hne)⟩) (first|(go_at_call 185;refine (ic _ _ _ _ _).mono ?_;rintro e w1 ⟨rfl,hb1⟩;rw[hco];generalize hck:(common ⟨yk,true⟩ ⟨zk,zn⟩).1=ck;have RQ:=hide hck;clear hck;have hq:=ag hb1;have x0':=ah hq hB0 x0;have x1':=ah hq hB0 x1;have y0':=ah hq hB0 y0;have y1':=ah hq hB0 y1;have z0':=ah hq hB0 z0;have z1':=ah hq hB0 z1;have R:=hide (R.out.below hq);have Q:=hide (Q.out.below hq);have hb0:=aa hb0 hq;clear hb1;obtain ⟨q0,q1,p0,p1,_⟩:=Q.out;obtain ⟨r0,r1,s0,s1,_⟩:=R.out))
 have x0:=x0'
 have x1:=x1'
 have y0:=y0'
 have y1:=y1'
 have z0:=z0'
 have z1:=z1'
 clear x0' x1' y0' y1' z0' z1'
 have hB0:=Nat.lt_of_lt_of_le hB0 hq.size
 have hn0:=Nat.lt_of_lt_of_le hn0 hq.size
 clear hq
 go_upto_region 17 with (fail)
 first|(go_region_with (first|(go_at_call 186;refine (eD _ _ _ _).mono ?_;rintro e w2 ⟨rfl,hb1⟩;rw[hf];have hq:=ag hb1;have x0':=ah hq hB0 x0;have x1':=ah hq hB0 x1;have y1':=ah hq hB0 y1;have z1':=ah hq hB0 z1;have R:=hide (R.out.below hq);have Q:=hide (Q.out.below hq);have hb0:=aa hb0 hq;clear hb1;obtain ⟨q0,q1,p0,p1,_⟩:=Q.out;obtain ⟨r0,r1,s0,s1,_⟩:=R.out)))|fail
 all_goals
  obtain ⟨w4,hw4⟩: ∃w4,w4=(w2.setCell ⟨w.heap.size+1+1,0,none⟩ (.int .i64 ck)).setCell ⟨w.heap.size+1+1,1,none⟩ (.bool true):=⟨_,rfl⟩
  have R:Hid (Zk w4 (w.heap.size+1)):=hide (by rw[hw4];exact R.out.far hrq _ _)
  have u0:w4.cell? ⟨w.heap.size+1+1,0,none⟩=some (.int .i64 ck):=by rw[hw4];exact bO Q.out.c0 Q.out.c1 0 _ rfl
  have u1:w4.cell? ⟨w.heap.size+1+1,1,none⟩=some (.bool true):=by rw[hw4];exact bO Q.out.c0 Q.out.c1 1 _ rfl
  have hb0:Below w.heap.size w w4:=by rw[hw4];exact aV hb0 (by omega) _ _
  rw[<-hw4]
  clear hw4 Q
  obtain ⟨r0,r1,s0,s1,_⟩:=R.out
  go_wp2
  refine bodyPost_ret (v:=.tuple #[.agg (Kd.cells ⟨ck,true⟩).toArray,.int .i64 0]) (aA (cs:=Kd.cells ⟨ck,true⟩) rfl _ _ (w.heap.size+1) _ _ rfl rfl (bO R.out.c0 R.out.c1) Tryz.underlying173 rfl (by kernel_rfl)) rfl ⟨by rw[HN.out,RQ.out];rfl,aV hb0 (by omega) _ _⟩
theorem EK (kd nu ar:Int)(st nm:ByteArray)(w:World)(A1:Option Addr)(n1 c1:Nat)(cols:List Col)(hc:In w A1 n1 c1 cols)(A2:Option Addr)(n2 c2:Nat)(zs:List Zone)(hz:In w A2 n2 c2 zs)(b off c:Nat)(xk:Int)(xn:Bool)(yk:Int)(zk:Int)(zn:Bool)(hx:In w (some ⟨b,off,none⟩) 3 c ([⟨xk,xn⟩,⟨yk,true⟩,⟨zk,zn⟩]:List Kd))(hco:(common ⟨yk,true⟩ ⟨zk,zn⟩).2=true)(hf:fits ⟨xk,xn⟩ 1=false):
  Calls Tryz.prog 157 #[.agg #[.int .i64 17,.int .i64 kd,.int .i64 nu,.string st,.string nm,.int .i64 ar],.slice (some ⟨b,off,none⟩) 3 c,.slice A1 n1 c1,.slice A2 n2 c2] w λe w'=>e=.returned (.tuple #[.agg (aF cols zs ⟨17,⟨kd,nu,st⟩,nm,ar⟩ ([⟨xk,xn⟩,⟨yk,true⟩,⟨zk,zn⟩]:List Kd)).2.cells.toArray,.int .i64 (aF cols zs ⟨17,⟨kd,nu,st⟩,nm,ar⟩ ([⟨xk,xn⟩,⟨yk,true⟩,⟨zk,zn⟩]:List Kd)).1])/\Below w.heap.size w w':=by
 obtain ⟨hB,x0,x1⟩:=bq hx (show 0<3 by omega) (x:=⟨xk,xn⟩) rfl
 obtain ⟨hB,y0,y1⟩:=bq hx (show 1<3 by omega) (x:=⟨yk,true⟩) rfl
 obtain ⟨hB,z0,z1⟩:=bq hx (show 2<3 by omega) (x:=⟨zk,zn⟩) rfl
 simp only[Nat.zero_mul,Nat.one_mul,Nat.add_zero,Nat.reduceMul]at x0 x1 y0 y1 z0 z1
 have HN:Hid (aF cols zs ⟨17,⟨kd,nu,st⟩,nm,ar⟩ ([⟨xk,xn⟩,⟨yk,true⟩,⟨zk,zn⟩]:List Kd)=(7,default)):=hide (by rw[aF,if_neg (by simp only;omega),if_neg (by simp only;omega),if_neg (λh=>absurd h.1 (by simp only;omega)),if_pos (show (aQ (⟨17,⟨kd,nu,st⟩,nm,ar⟩:Node) ([⟨xk,xn⟩,⟨yk,true⟩,⟨zk,zn⟩]:List Kd)).2=false from by show ((common ⟨yk,true⟩ ⟨zk,zn⟩).2&&fits ⟨xk,xn⟩ 1)=false;rw[hco,hf];rfl)])
 go_enter Tryz.func157,Tryz.ntmps157
 go_upto_region 16 with (fail)
 obtain ⟨w0,hw0,R,Q,N0,N1, -, -,N4, -,hb0⟩:=nW w 17 kd nu ar st nm
 rw[<-hw0]
 clear hw0
 have hn0:w.heap.size<w0.heap.size:=Nat.lt_trans (show w.heap.size<w.heap.size+1 by omega) R.out.lt
 have hnq:¬w.heap.size=w.heap.size+1+1:=by omega
 have hrq:w.heap.size+1≠w.heap.size+1+1:=by omega
 have hB0:b<w0.heap.size:=by have:=hb0.size;omega
 have hne:¬b=w.heap.size+1+1:=by omega
 have x0:=ah hb0 hB x0
 have x1:=ah hb0 hB x1
 have y0:=ah hb0 hB y0
 have y1:=ah hb0 hB y1
 have z0:=ah hb0 hB z0
 have z1:=ah hb0 hB z1
 go_region_held3 (λV=>V.cell? ⟨b,off,none⟩=some (.int .i64 xk)/\V.cell? ⟨b,off+1,none⟩=some (.bool xn)/\V.cell? ⟨b,off+2,none⟩=some (.int .i64 yk)/\V.cell? ⟨b,off+2+1,none⟩=some (.bool true)/\V.cell? ⟨b,off+4,none⟩=some (.int .i64 zk)/\V.cell? ⟨b,off+4+1,none⟩=some (.bool zn)) (first|exact ⟨x0,x1,y0,y1,z0,z1⟩|exact ⟨x0',x1',y0',y1',z0',z1'⟩|exact ⟨ae (ae x0' (.inl hne)) (.inl hne),ae (ae x1' (.inl hne)) (.inl hne),ae (ae y0' (.inl hne)) (.inl hne),ae (ae y1' (.inl hne)) (.inl hne),ae (ae z0' (.inl hne)) (.inl hne),ae (ae z1' (.inl hne)) (.inl hne)⟩|exact ⟨ae (ae x0 (.inl hne)) (.inl hne),ae (ae x1 (.inl hne)) (.inl hne),ae (ae y0 (.inl hne)) (.inl hne),ae (ae y1 (.inl hne)) (.inl hne),ae (ae z0 (.inl hne)) (.inl hne),ae (ae z1 (.inl hne)) (.inl hne)⟩) (first|(go_at_call 185;refine (ic _ _ _ _ _).mono ?_;rintro e w1 ⟨rfl,hb1⟩;rw[hco];generalize hck:(common ⟨yk,true⟩ ⟨zk,zn⟩).1=ck;have RQ:=hide hck;clear hck;have hq:=ag hb1;have x0':=ah hq hB0 x0;have x1':=ah hq hB0 x1;have y0':=ah hq hB0 y0;have y1':=ah hq hB0 y1;have z0':=ah hq hB0 z0;have z1':=ah hq hB0 z1;have R:=hide (R.out.below hq);have Q:=hide (Q.out.below hq);have hb0:=aa hb0 hq;clear hb1;obtain ⟨q0,q1,p0,p1,_⟩:=Q.out;obtain ⟨r0,r1,s0,s1,_⟩:=R.out))
 have x0:=x0'
 have x1:=x1'
 have y0:=y0'
 have y1:=y1'
 have z0:=z0'
 have z1:=z1'
 clear x0' x1' y0' y1' z0' z1'
 have hB0:=Nat.lt_of_lt_of_le hB0 hq.size
 have hn0:=Nat.lt_of_lt_of_le hn0 hq.size
 clear hq
 go_upto_region 17 with (fail)
 first|(go_region_with (first|(go_at_call 186;refine (eD _ _ _ _).mono ?_;rintro e w2 ⟨rfl,hb1⟩;rw[hf];have hq:=ag hb1;have x0':=ah hq hB0 x0;have x1':=ah hq hB0 x1;have y1':=ah hq hB0 y1;have z1':=ah hq hB0 z1;have R:=hide (R.out.below hq);have Q:=hide (Q.out.below hq);have hb0:=aa hb0 hq;clear hb1;obtain ⟨q0,q1,p0,p1,_⟩:=Q.out;obtain ⟨r0,r1,s0,s1,_⟩:=R.out)))|fail
 all_goals
  obtain ⟨w4,hw4⟩: ∃w4,w4=(w2.setCell ⟨w.heap.size+1+1,0,none⟩ (.int .i64 ck)).setCell ⟨w.heap.size+1+1,1,none⟩ (.bool true):=⟨_,rfl⟩
  have R:Hid (Zk w4 (w.heap.size+1)):=hide (by rw[hw4];exact R.out.far hrq _ _)
  have u0:w4.cell? ⟨w.heap.size+1+1,0,none⟩=some (.int .i64 ck):=by rw[hw4];exact bO Q.out.c0 Q.out.c1 0 _ rfl
  have u1:w4.cell? ⟨w.heap.size+1+1,1,none⟩=some (.bool true):=by rw[hw4];exact bO Q.out.c0 Q.out.c1 1 _ rfl
  have hb0:Below w.heap.size w w4:=by rw[hw4];exact aV hb0 (by omega) _ _
  rw[<-hw4]
  clear hw4 Q
  obtain ⟨r0,r1,s0,s1,_⟩:=R.out
  go_wp2
  refine bodyPost_ret (v:=.tuple #[.agg (Kd.cells ⟨0,false⟩).toArray,.int .i64 7]) (aA (cs:=Kd.cells ⟨0,false⟩) rfl _ _ (w.heap.size+1) _ _ rfl rfl (bO R.out.c0 R.out.c1) Tryz.underlying173 rfl (by kernel_rfl)) rfl ⟨by rw[HN.out];rfl,aV hb0 (by omega) _ _⟩
end Go.Proofs.YtggejcekmehocaaGreatDoor
