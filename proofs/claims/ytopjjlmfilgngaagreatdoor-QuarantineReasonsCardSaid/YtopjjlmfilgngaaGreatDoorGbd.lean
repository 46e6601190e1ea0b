/-
  warehouseref9.node: it returns nodeKd. (Printed by gen_node.py.) warehouseref9.value: it returns nodeV. (Printed by gen_val9.py.) Plain laws of chapter 30: the checks that its laws make; one waiver more; all rows again. No program is in sight. Plain: chapter 30's closed example. No program is in sight.
-/
import Derived.Test.YtopjjlmfilgngaaGreatDoorArB
import Derived.Test.YtopjjlmfilgngaaGreatDoorGba
namespace Go.Proofs.YtopjjlmfilgngaaGreatDoor
set_option maxHeartbeats 4000000
set_option maxRecDepth 100000
open Go.RowKit
set_option linter.unusedSimpArgs false
set_option linter.unusedVariables false
structure Zk (w:World) (g:Nat):Prop where
 c0:w.cell? ⟨g,0,none⟩=some (.int .i64 0)
 c1:w.cell? ⟨g,1,none⟩=some (.bool false)
 f0:w.frozen? ⟨g,0,none⟩=false
 f1:w.frozen? ⟨g,1,none⟩=false
 lt:g<w.heap.size
theorem Zk.below {w w':World}{g:Nat}(h:Zk w g)(hb:Below w.heap.size w w'):Zk w' g:=
 ⟨fO hb h.lt h.c0,fO hb h.lt h.c1,((fU hb).2 _ _ h.lt).trans h.f0,((fU hb).2 _ _ h.lt).trans h.f1,by have:=hb.size;have:=h.lt;omega⟩
theorem Zk.made (w:World)(t:TypeId):Zk (w.alloc (.cells #[.int .i64 0,.bool false] t)) w.heap.size:=by
 constructor<;>simp[go_sem]
theorem Zk.far {w:World}{g d:Nat}(h:Zk w g)(c:g≠d)(a b:Value):Zk ((w.setCell ⟨d,0,none⟩ a).setCell ⟨d,1,none⟩ b) g:=
 ⟨fM (fM h.c0 (.inl c)) (.inl c),fM (fM h.c1 (.inl c)) (.inl c),by have:=h.f0;simp[this],by have:=h.f1;simp[this],by have:=h.lt;simpa using this⟩
theorem mW {w:World}{g:Nat}{f h b c:Value}(d:w.cell? ⟨g,0,none⟩=some f)(e:w.cell? ⟨g,1,none⟩=some h):
  ∀(j:Nat) (v:Value),[b,c][j]?=some v->((w.setCell ⟨g,0,none⟩ b).setCell ⟨g,1,none⟩ c).cell? ⟨g,j,none⟩=some v:=by
 intro j v a
 match j,a with
 | 0,a=>simp at a;subst a;exact fM (iC d) (.inr (by omega))
 | 1,a=>simp at a;subst a;exact iC (fM e (.inr (by omega)))
theorem jZ {B g:Nat}{w w':World}(h:Below B w w')(a:B<=g)(u v:Value):Below B w ((w'.setCell ⟨g,0,none⟩ u).setCell ⟨g,1,none⟩ v):=(h.setCell a _).setCell a _
theorem Zk.drew {w:World}{g:Nat}(h:Zk w g):Zk w.drew g:=⟨h.c0,h.c1,h.f0,h.f1,h.lt⟩
theorem Mc (w:World)(d kd c b:Int)(st nm:ByteArray): ∃a,a=(((w.alloc (.cells #[.int .i64 d,.int .i64 kd,.int .i64 c,.string st,.string nm,.int .i64 b] 89)).alloc (.cells #[.int .i64 0,.bool false] 170)).alloc (.cells #[.int .i64 0,.bool false] 170))/\Hl (Zk a (w.heap.size+1))/\Hl (Zk a (w.heap.size+1+1))/\
  a.cell? ⟨w.heap.size,0,none⟩=some (.int .i64 d)/\a.cell? ⟨w.heap.size,1,none⟩=some (.int .i64 kd)/\a.cell? ⟨w.heap.size,2,none⟩=some (.int .i64 c)/\a.cell? ⟨w.heap.size,3,none⟩=some (.string st)/\a.cell? ⟨w.heap.size,4,none⟩=some (.string nm)/\a.cell? ⟨w.heap.size,5,none⟩=some (.int .i64 b)/\Below w.heap.size w a:=
 ⟨_,rfl,Hm (by have:=(Zk.made (w.alloc (.cells #[.int .i64 d,.int .i64 kd,.int .i64 c,.string st,.string nm,.int .i64 b] 89)) 170).below (w':=(((w.alloc (.cells #[.int .i64 d,.int .i64 kd,.int .i64 c,.string st,.string nm,.int .i64 b] 89)).alloc (.cells #[.int .i64 0,.bool false] 170)).alloc (.cells #[.int .i64 0,.bool false] 170))) fI;simpa using this),Hm (by have:=Zk.made ((w.alloc (.cells #[.int .i64 d,.int .i64 kd,.int .i64 c,.string st,.string nm,.int .i64 b] 89)).alloc (.cells #[.int .i64 0,.bool false] 170)) 170;simpa using this),by simp[go_sem],by simp[go_sem],by simp[go_sem],by simp[go_sem],by simp[go_sem],by simp[go_sem],below_alloc3⟩
theorem J9 (b d:Int)(c f:Bool)(w:World):
  Calls Tryz.prog 160 #[.int .i64 5,.agg #[.int .i64 b,.bool c],.agg #[.int .i64 d,.bool f]] w λe w'=>lN (gM 5 ⟨b,c⟩ ⟨d,f⟩) e/\Below w.heap.size w w':=by
 have a:=Below.refl (((w.alloc (.cells #[.int .i64 b,.bool c] 170)).alloc (.cells #[.int .i64 d,.bool f] 170)).alloc (.cells #[.int .i64 0,.bool false] 170)).heap.size (((w.alloc (.cells #[.int .i64 b,.bool c] 170)).alloc (.cells #[.int .i64 d,.bool f] 170)).alloc (.cells #[.int .i64 0,.bool false] 170));cases c<;>cases f;all_goals(
  go_enter Tryz.func160,Tryz.ntmps160;go_wp2_with (go_at_call 195;refine(yT _ _ _ _ _).mono ?_;rintro e u ⟨⟨⟨s,t⟩,rfl,j⟩,i⟩;have n:=Hm j;have a:=fH a i;have g:=(fU a).1 (w.heap.size+1+1) 0 (by simp<;>omega);have h:=(fU a).1 (w.heap.size+1+1) 1 (by simp<;>omega);have k:=(fU a).2 (w.heap.size+1+1) 0 (by simp<;>omega);have l:=(fU a).2 (w.heap.size+1+1) 1 (by simp<;>omega);simp[go_sem]at g h k l;simp only[Kd.cells];have m:Hl (Below w.heap.size w u):=Hm (fH (fH below_alloc2 fI) a);have p:=Hm (jy g h);clear i j a);refine bodyPost_ret (v:=.tuple #[.agg (Kd.cells ⟨s,t⟩).toArray,.bool (gM 5 ⟨b,_⟩ ⟨d,_⟩).2]) ?_ rfl ⟨⟨_,rfl,n.o⟩,(m.o.setCell (by simp<;>omega) _).setCell (by simp<;>omega) _⟩;obtain⟨q,r⟩:=p.o;simp[results,Tryz.results160,go_sem,q,r,Kd.cells])
theorem Fx (a:Int)(g:(4<=a/\a<=15)\/a=18)(b d:Int)(c f:Bool)(w:World):
  Calls Tryz.prog 160 #[.int .i64 a,.agg #[.int .i64 b,.bool c],.agg #[.int .i64 d,.bool f]] w λe w'=>lN (gM a ⟨b,c⟩ ⟨d,f⟩) e/\Below w.heap.size w w':=by
 obtain rfl|rfl|rfl|rfl|rfl|rfl|rfl|rfl|rfl|rfl|rfl|rfl|rfl:a=4\/a=5\/a=6\/a=7\/a=8\/a=9\/a=10\/a=11\/a=12\/a=13\/a=14\/a=15\/a=18:=by omega
 ·by_cases h:b=4
  ·subst h;exact(Ip d c f w).mono λe w' h=>⟨lN.mk h.1 rfl (λ_=>rfl),h.2⟩
  ·exact(Io b d c f w (by simpa using h) h).mono λe w' h=>⟨lN.mk h.1 rfl (λ_=>rfl),h.2⟩
 ·exact J9 b d c f w
 ·exact(vR 6 (by simp) b d c f w).mono λe w' h=>⟨lN.mk h.1 rfl (λ_=>rfl),h.2⟩
 ·exact(vR 7 (by simp) b d c f w).mono λe w' h=>⟨lN.mk h.1 rfl (λ_=>rfl),h.2⟩
 ·exact(vR 8 (by simp) b d c f w).mono λe w' h=>⟨lN.mk h.1 rfl (λ_=>rfl),h.2⟩
 ·exact(vR 9 (by simp) b d c f w).mono λe w' h=>⟨lN.mk h.1 rfl (λ_=>rfl),h.2⟩
 ·exact(vS 10 (by simp) b d c f w).mono λe w' h=>⟨lN.mk h.1 rfl (λ_=>rfl),h.2⟩
 ·exact(vS 11 (by simp) b d c f w).mono λe w' h=>⟨lN.mk h.1 rfl (λ_=>rfl),h.2⟩
 ·exact(vS 12 (by simp) b d c f w).mono λe w' h=>⟨lN.mk h.1 rfl (λ_=>rfl),h.2⟩
 ·exact(vS 13 (by simp) b d c f w).mono λe w' h=>⟨lN.mk h.1 rfl (λ_=>rfl),h.2⟩
 ·exact(yL 14 (by simp) b d c f w).mono λe w' h=>⟨lN.mk h.1 rfl (λ_=>rfl),h.2⟩
 ·exact(yL 15 (by simp) b d c f w).mono λe w' h=>⟨lN.mk h.1 rfl (λ_=>rfl),h.2⟩
 ·exact(yL 18 (by simp) b d c f w).mono λe w' h=>⟨lN.mk h.1 rfl (λ_=>rfl),h.2⟩
theorem EH (a kd m l:Int)(st nm:ByteArray)(w:World)(G:Option Addr)(N c1:Nat)(cols:List Col)(hc:In w G N c1 cols)(A2:Option Addr)(n2 c2:Nat)(zs:List Zone)(hz:In w A2 n2 c2 zs)(b off c:Nat)(f:Int)(g:Bool)(i:Int)(j:Bool)(M:In w (some ⟨b,off,none⟩) 2 c ([⟨f,g⟩,⟨i,j⟩]:List Kd))(K:(4<=a/\a<=15)\/a=18):
  Calls Tryz.prog 132 #[.agg #[.int .i64 a,.int .i64 kd,.int .i64 m,.string st,.string nm,.int .i64 l],.slice (some ⟨b,off,none⟩) 2 c,.slice G N c1,.slice A2 n2 c2] w λe w'=>e=.returned (.tuple #[.agg (iA cols zs ⟨a,⟨kd,m,st⟩,nm,l⟩ ([⟨f,g⟩,⟨i,j⟩]:List Kd)).2.cells.toArray,.int .i64 (iA cols zs ⟨a,⟨kd,m,st⟩,nm,l⟩ ([⟨f,g⟩,⟨i,j⟩]:List Kd)).1])/\Below w.heap.size w w':=by
 rcases Bool.eq_false_or_eq_true ((gM a ⟨f,g⟩ ⟨i,j⟩).2) with p|p;all_goals
  obtain⟨z,s,t⟩:=wD M (show 0<2 by omega) (x:=⟨f,g⟩) rfl;obtain⟨z,u,y⟩:=wD M (show 1<2 by omega) (x:=⟨i,j⟩) rfl;simp only[Nat.zero_mul,Nat.one_mul,Nat.add_zero,Nat.reduceMul]at s t u y
  first|(have:=(show(gM a ⟨f,g⟩ ⟨i,j⟩).2=true from p);have E:Hl (iA cols zs ⟨a,⟨kd,m,st⟩,nm,l⟩ ([⟨f,g⟩,⟨i,j⟩]:List Kd)=(0,(gM a ⟨f,g⟩ ⟨i,j⟩).1)):=Hm (by rw[iA,if_neg (by simp only;omega),if_neg (by simp only;omega),if_neg (λh=>absurd h.1 (by simp only;omega))];rw[if_neg (show ¬(jc (⟨a,⟨kd,m,st⟩,nm,l⟩:Node) ([⟨f,g⟩,⟨i,j⟩]:List Kd)).2=false from λh=>by have Y:(jc (⟨a,⟨kd,m,st⟩,nm,l⟩:Node) ([⟨f,g⟩,⟨i,j⟩]:List Kd)).2=true:=p;rw[Y]at h;cases h)];rfl))|(have E:Hl (iA cols zs ⟨a,⟨kd,m,st⟩,nm,l⟩ ([⟨f,g⟩,⟨i,j⟩]:List Kd)=(7,default)):=Hm (by rw[iA,if_neg (by simp only;omega),if_neg (by simp only;omega),if_neg (λh=>absurd h.1 (by simp only;omega))];rw[if_pos (show(jc (⟨a,⟨kd,m,st⟩,nm,l⟩:Node) ([⟨f,g⟩,⟨i,j⟩]:List Kd)).2=false from p)]))
  have e0:(a==0)=false:=by simp;omega
  have e1:(a==1)=false:=by simp;omega
  have ab:(a==17)=false:=by simp;omega
  have ac:(a==20)=false:=by simp;omega
  have ad:(a==21)=false:=by simp;omega
  have X:=Hm K;clear K;go_enter Tryz.func132,Tryz.ntmps132;go_upto_region 5 with (fail);obtain⟨O,L,R,Q,F,N1, -, -,N4, -,k⟩:=Mc w a kd m l st nm;rw[<-L];clear L;have Z:w.heap.size<O.heap.size:=Nat.lt_trans (show w.heap.size<w.heap.size+1 by omega) R.o.lt;have B:¬w.heap.size=w.heap.size+1+1:=by omega
  have aa:w.heap.size+1≠w.heap.size+1+1:=by omega
  have A:b<O.heap.size:=by have:=k.size;omega
  have d:¬b=w.heap.size+1+1:=by omega
  have s:=fO k z s;have t:=fO k z t;have u:=fO k z u;have y:=fO k z y;go_region_held3 (λV=>V.cell? ⟨w.heap.size,0,none⟩=some (.int .i64 a)/\V.cell? ⟨b,off,none⟩=some (.int .i64 f)/\V.cell? ⟨b,off+1,none⟩=some (.bool g)/\V.cell? ⟨b,off+2,none⟩=some (.int .i64 i)/\V.cell? ⟨b,off+2+1,none⟩=some (.bool j)) (first|exact⟨F,s,t,u,y⟩|exact⟨H,P,S,T,U⟩|exact⟨fM (fM H (.inl B)) (.inl B),fM (fM P (.inl d)) (.inl d),fM (fM S (.inl d)) (.inl d),fM (fM T (.inl d)) (.inl d),fM (fM U (.inl d)) (.inl d)⟩|exact⟨fM (fM F (.inl B)) (.inl B),fM (fM s (.inl d)) (.inl d),fM (fM t (.inl d)) (.inl d),fM (fM u (.inl d)) (.inl d),fM (fM y (.inl d)) (.inl d)⟩) (first|(go_at_call 160;refine(Fx a X.o f i g j _).mono ?_;rintro e w1 ⟨⟨⟨C,D⟩,rfl,J⟩,I⟩;have W:=Hm J;clear J;rw[p];simp only[Kd.cells];have n:=fP I;have H:=fO n Z F;have P:=fO n A s;have S:=fO n A t;have T:=fO n A u;have U:=fO n A y;have R:=Hm (R.o.below n);have Q:=Hm (Q.o.below n);have k:=fH k n;clear I;obtain⟨q0,q1,p0,p1,_⟩:=Q.o;obtain⟨r0,r1,s0,s1,_⟩:=R.o));obtain⟨r,q⟩: ∃r,r=(w1.setCell ⟨w.heap.size+1+1,0,none⟩ (.int .i64 C)).setCell ⟨w.heap.size+1+1,1,none⟩ (.bool D):=⟨_,rfl⟩;have R:Hl (Zk r (w.heap.size+1)):=Hm (by rw[q];exact R.o.far aa _ _);have u0:r.cell? ⟨w.heap.size+1+1,0,none⟩=some (.int .i64 C):=by rw[q];exact mW Q.o.c0 Q.o.c1 0 _ rfl
  have u1:r.cell? ⟨w.heap.size+1+1,1,none⟩=some (.bool D):=by rw[q];exact mW Q.o.c0 Q.o.c1 1 _ rfl
  have k:Below w.heap.size w r:=by rw[q];exact jZ k (by omega) _ _
  rw[<-q];clear q Q;obtain⟨r0,r1,s0,s1,_⟩:=R.o;go_wp2
  first|(have:=(show(gM a ⟨f,g⟩ ⟨i,j⟩).2=true from p);refine bodyPost_ret (v:=.tuple #[.agg (Kd.cells ⟨C,D⟩).toArray,.int .i64 0]) (gJ (cs:=Kd.cells ⟨C,D⟩) rfl _ _ (w.heap.size+1) _ _ rfl rfl (mW R.o.c0 R.o.c1) Tryz.underlying170 rfl (by kernel_rfl)) rfl ⟨by rw[E.o,<-W.o p],jZ k (by omega) _ _⟩)|(refine bodyPost_ret (v:=.tuple #[.agg (Kd.cells ⟨0,false⟩).toArray,.int .i64 7]) (gJ (cs:=Kd.cells ⟨0,false⟩) rfl _ _ (w.heap.size+1) _ _ rfl rfl (mW R.o.c0 R.o.c1) Tryz.underlying170 rfl (by kernel_rfl)) rfl ⟨by rw[E.o];rfl,jZ k (by omega) _ _⟩)
theorem O4 (kd f b:Int)(st nm:ByteArray)(w:World)(t:Option Addr)(l c1:Nat)(cols:List Col)(i:In w t l c1 cols)(A2:Option Addr)(n2 c2:Nat)(zs:List Zone)(U:In w A2 n2 c2 zs)(A:Option Addr)(m c:Nat)(xs:List Kd):
  Calls Tryz.prog 132 #[.agg #[.int .i64 1,.int .i64 kd,.int .i64 f,.string st,.string nm,.int .i64 b],.slice A m c,.slice t l c1,.slice A2 n2 c2] w λe w'=>e=.returned (.tuple #[.agg (iA cols zs ⟨1,⟨kd,f,st⟩,nm,b⟩ xs).2.cells.toArray,.int .i64 (iA cols zs ⟨1,⟨kd,f,st⟩,nm,b⟩ xs).1])/\Below w.heap.size w w':=by
 have P:=i.le;go_enter Tryz.func132,Tryz.ntmps132;go_wp2_with fail;obtain⟨B,x,R,Q,M,N, -, -,O, -,a⟩:=Mc w 1 kd f b st nm;rw[<-x];clear x;have S:w.heap.size<B.heap.size:=Nat.lt_trans (show w.heap.size<w.heap.size+1 by omega) R.o.lt;have T:¬w.heap.size=w.heap.size+1+1:=by omega
 have G:w.heap.size+1≠w.heap.size+1+1:=by omega
 refine(rA _ _ _ _ cols (i.below a) nm).mono ?_;rintro e w1 ⟨rfl,rfl⟩;obtain⟨q0,q1,Y,Z,_⟩:=Q.o;obtain⟨I,J,K,L,_⟩:=R.o;rcases lD nm cols 0 with s|⟨E,F⟩
 ·have q:Hl (iA cols zs ⟨1,⟨kd,f,st⟩,nm,b⟩ xs=(5,default)):=Hm (by rw[iA,if_pos rfl,if_pos (by simp only;rw[index,s];omega)]);rw[show index cols nm= -1 from s];clear s;go_wp2;refine bodyPost_ret (v:=.tuple #[.agg (Kd.cells ⟨0,false⟩).toArray,.int .i64 5]) (gJ (cs:=Kd.cells ⟨0,false⟩) rfl _ _ (w.heap.size+1) _ _ rfl rfl (mW R.o.c0 R.o.c1) Tryz.underlying170 rfl (by kernel_rfl)) rfl ⟨by rw[q.o];rfl,jZ a (by omega) _ _⟩
 ·obtain⟨j,h⟩: ∃j:Nat,index cols nm=(j:Int):=⟨(index cols nm).toNat,by rw[index];omega⟩;have D:j<l:=by have:=i.len;rw[index]at h;omega
  obtain⟨r,z,y,rfl,u,C,v0,n,p,aa⟩:=i.col D;have n:=fO a u n;have p:=fO a u p;have k:¬r=w.heap.size+1+1:=by omega
  have q:Hl (iA cols zs ⟨1,⟨kd,f,st⟩,nm,b⟩ xs=(0,⟨y.kind,y.nullable⟩)):=Hm (by
   have H:cols.getD (index cols nm).toNat default=y:=by rw[h,Int.toNat_natCast,List.getD,(iR C.o).1];rfl
   rw[iA,if_pos rfl,if_neg (by simp only;rw[h];omega)];simp only;rw[H])
  have W:(0:Int)<=(j:Int):=by omega
  have X:(j:Int)<(l:Int):=by omega
  rw[h];clear E F h;go_wp2;go_region_held3 (λV=>V.cell? ⟨r,z+j*3+1,none⟩=some (.int .i64 y.kind)/\V.cell? ⟨r,z+j*3+2,none⟩=some (.bool y.nullable)) (first|exact⟨n,p⟩|exact⟨fM (fM n (.inl k)) (.inl k),fM (fM p (.inl k)) (.inl k)⟩) (first|fail);obtain⟨g,d⟩: ∃g,g=((B.setCell ⟨w.heap.size+1+1,0,none⟩ (.int .i64 y.kind)).setCell ⟨w.heap.size+1+1,1,none⟩ (.bool y.nullable)).drew:=⟨_,rfl⟩;have R:Hl (Zk g (w.heap.size+1)):=Hm (by rw[d];exact(R.o.far G _ _).drew);have u0:g.cell? ⟨w.heap.size+1+1,0,none⟩=some (.int .i64 y.kind):=by rw[d];exact mW Q.o.c0 Q.o.c1 0 _ rfl
  have u1:g.cell? ⟨w.heap.size+1+1,1,none⟩=some (.bool y.nullable):=by rw[d];exact mW Q.o.c0 Q.o.c1 1 _ rfl
  have a:Below w.heap.size w g:=by rw[d];exact(jZ a (by omega) _ _).drew
  rw[<-d];clear d Q;obtain⟨I,J,K,L,_⟩:=R.o;go_wp2;refine bodyPost_ret (v:=.tuple #[.agg (Kd.cells ⟨y.kind,y.nullable⟩).toArray,.int .i64 0]) (gJ (cs:=Kd.cells ⟨y.kind,y.nullable⟩) rfl _ _ (w.heap.size+1) _ _ rfl rfl (mW R.o.c0 R.o.c1) Tryz.underlying170 rfl (by kernel_rfl)) rfl ⟨by rw[q.o],jZ a (by omega) _ _⟩
theorem O9 (a:Int)(B:List Zone)(kd y t:Int)(st nm:ByteArray)(w:World)(b off:Nat)(c:Nat)(f l g m:Int)(xs n:ByteArray)(R:In w (some ⟨b,off,none⟩) 2 c ([⟨f,l,xs⟩,⟨g,m,n⟩]:List Val))(P:4<=a/\a<=13)(ag:gD l)(ah:gD m)(ad:xs.size<=64)(ae:n.size<=64)(A1:Option Addr)(n1 c1:Nat)(A3:Option Addr)(n3 c3:Nat)(A2:Option Addr)(n2 c2:Nat)(hz:In w A2 n2 c2 B):
  Calls Tryz.prog 161 #[.agg #[.int .i64 a,.int .i64 kd,.int .i64 y,.string st,.string nm,.int .i64 t],.slice (some ⟨b,off,none⟩) 2 c,.slice A1 n1 c1,.slice A3 n3 c3,.slice A2 n2 c2] w λe w'=>e=.returned (.agg (vG B ⟨a,⟨kd,y,st⟩,nm,t⟩ ([⟨f,l,xs⟩,⟨g,m,n⟩]:List Val)).cells.toArray)/\Below w.heap.size w w':=by
 obtain⟨D,xV,ap⟩:=pU R (show 0<2 by omega) (x:=⟨f,l,xs⟩) rfl;obtain⟨D,yV,aq⟩:=pU R (show 1<2 by omega) (x:=⟨g,m,n⟩) rfl;have e0:(a==0)=false:=by simp;omega
 have e1:(a==1)=false:=by simp;omega
 have e2:(a==2)=false:=by simp;omega
 have e3:(a==3)=false:=by simp;omega
 have ai:(a==14)=false:=by simp;omega
 have aj:(a==15)=false:=by simp;omega
 have ak:(a==16)=false:=by simp;omega
 have al:(a==17)=false:=by simp;omega
 have am:(a==18)=false:=by simp;omega
 have an:(a==19)=false:=by simp;omega
 have ao:(a==20)=false:=by simp;omega
 have p:=Hm P;clear P;go_enter Tryz.func161,Tryz.ntmps161;go_upto_region 20 with (fail);obtain⟨S,Q,Z,L,N1,N2,N3,N4, -,s⟩:=Dq w a kd y t st nm;rw[<-Q];clear Q;have ac:w.heap.size<S.heap.size:=Nat.lt_trans (show w.heap.size<w.heap.size+1 by omega) Z.o.lt;have u:b<S.heap.size:=by have:=s.size;omega
 have d:¬b=w.heap.size+1:=by omega
 obtain⟨F,G,H⟩:=V3.below xV s D;obtain⟨I,J,K⟩:=V3.below yV s D;simp only[Nat.zero_mul,Nat.one_mul,Nat.add_zero,Nat.reduceMul]at F G H I J K;obtain⟨z0,z1,z2,f0,f1,f2,_⟩:=Z.o;have E:¬w.heap.size=w.heap.size+1:=by omega
 go_wp2
 go_loop [11] (λi=> ∃k:Nat,k<=2/\i=.int .i64 k/\(0<k->¬f=0)/\(1<k->¬g=0)) (λi=>2-(intOf i).toNat)
 case atStart=>exact⟨0,by omega,rfl,λh=>absurd h (by omega),λh=>absurd h (by omega)⟩
 case round=>
  obtain⟨k,hk,rfl,A,C⟩:=hrel;obtain rfl|rfl|rfl:k=0\/k=1\/k=2:=by omega
  ·clear A C;by_cases j:f=0
   ·have z:Hl (vG B ⟨a,⟨kd,y,st⟩,nm,t⟩ ([⟨f,l,xs⟩,⟨g,m,n⟩]:List Val)=iG):=Hm (by simp only[vG];rw[if_neg (by have:=p.o;omega),if_neg (by have:=p.o;omega),if_neg (by have:=p.o;omega),if_pos (.inl j)]);have q:(f==0)=true:=by simpa using j
    clear j;go_wp2;refine bodyPost_ret (v:=.agg (Val.cells iG).toArray) (iM (cs:=Val.cells iG) rfl _ _ (w.heap.size+1) _ rfl (iJ Z.o.c0 Z.o.c1 Z.o.c2) Tryz.underlying36 rfl (by kernel_rfl)) rfl ⟨by rw[z.o],gK s (by omega) _ _ _⟩
   ·have q:(f==0)=false:=by simpa using j
    go_wp2
    go_round
    case rel=>exact⟨1,by omega,by go_num,λ_=>j,λh=>absurd h (by omega)⟩
    case measure=>simp[intOf]
  ·have af:=Hm (A (by omega));clear A C;by_cases j:g=0
   ·have z:Hl (vG B ⟨a,⟨kd,y,st⟩,nm,t⟩ ([⟨f,l,xs⟩,⟨g,m,n⟩]:List Val)=iG):=Hm (by simp only[vG];rw[if_neg (by have:=p.o;omega),if_neg (by have:=p.o;omega),if_neg (by have:=p.o;omega),if_pos (.inr j)]);have q:(g==0)=true:=by simpa using j
    clear j;go_wp2;refine bodyPost_ret (v:=.agg (Val.cells iG).toArray) (iM (cs:=Val.cells iG) rfl _ _ (w.heap.size+1) _ rfl (iJ Z.o.c0 Z.o.c1 Z.o.c2) Tryz.underlying36 rfl (by kernel_rfl)) rfl ⟨by rw[z.o],gK s (by omega) _ _ _⟩
   ·have q:(g==0)=false:=by simpa using j
    go_wp2
    go_round
    case rel=>exact⟨2,by omega,by go_num,λ_=>af.o,λ_=>j⟩
    case measure=>simp[intOf]
  ·have z:Hl (vG B ⟨a,⟨kd,y,st⟩,nm,t⟩ ([⟨f,l,xs⟩,⟨g,m,n⟩]:List Val)=jH a ⟨f,l,xs⟩ ⟨g,m,n⟩):=Hm (by simp only[vG];rw[if_neg (by have:=p.o;omega),if_neg (by have:=p.o;omega),if_neg (by have:=p.o;omega),if_neg (by rintro(h|h);exact A (by omega) h;exact C (by omega) h)]);clear A C;go_upto_region 36 with (fail);go_region_held3 (λV=>V.cell? ⟨b,off,none⟩=some (.int .i64 f)/\V.cell? ⟨b,off+1,none⟩=some (.int .i64 l)/\V.cell? ⟨b,off+2,none⟩=some (.string xs)/\V.cell? ⟨b,off+3,none⟩=some (.int .i64 g)/\V.cell? ⟨b,off+3+1,none⟩=some (.int .i64 m)/\V.cell? ⟨b,off+3+2,none⟩=some (.string n)/\V.cell? ⟨w.heap.size,0,none⟩=some (.int .i64 a)) (first|exact⟨F,G,H,I,J,K,L⟩|exact⟨T,U,W,X,Y,aa,M⟩|exact⟨fM (fM (fM T (.inl d)) (.inl d)) (.inl d),fM (fM (fM U (.inl d)) (.inl d)) (.inl d),fM (fM (fM W (.inl d)) (.inl d)) (.inl d),fM (fM (fM X (.inl d)) (.inl d)) (.inl d),fM (fM (fM Y (.inl d)) (.inl d)) (.inl d),fM (fM (fM aa (.inl d)) (.inl d)) (.inl d),fM (fM (fM M (.inl E)) (.inl E)) (.inl E)⟩) (first|(go_at_call 201;refine(Ki a p.o ⟨f,l,xs⟩ ⟨g,m,n⟩ ag ah ad ae _).mono ?_;rintro e w1 ⟨rfl,N⟩;have r:=fP N;have T:=fO r u F;have U:=fO r u G;have W:=fO r u H;have X:=fO r u I;have Y:=fO r u J;have aa:=fO r u K;have M:=fO r ac L;have Z:=Hm (Z.o.below r);have s:=fH s r;clear N;obtain⟨z0,z1,z2,f0,f1,f2,_⟩:=Z.o;generalize O:jH a ⟨f,l,xs⟩ ⟨g,m,n⟩=bv;obtain⟨bk,bn,bs⟩:=bv;have ab:=Hm O;clear O;simp only[Val.cells]));go_wp2;refine tF rfl Z.o rfl rfl ⟨by rw[z.o,ab.o],gK s (by omega) _ _ _⟩
theorem PG (kd n g:Int)(st nm:ByteArray)(w:World)(A:Option Addr)(m c:Nat)(f:Option Addr)(l c1:Nat)(cols:List Col)(h:In w f l c1 cols)(A3:Option Addr)(n3 c3:Nat)(row:List Val)(i:In w A3 n3 c3 row)(v:Value)(t:0<=index cols nm)(u:index cols nm<n3):
  Calls Tryz.prog 161 #[.agg #[.int .i64 1,.int .i64 kd,.int .i64 n,.string st,.string nm,.int .i64 g],.slice A m c,.slice f l c1,.slice A3 n3 c3,v] w λe w'=>e=.returned (.agg (row.getD (index cols nm).toNat iG).cells.toArray)/\Below w.heap.size w w':=by
 have L:=h.le;have M:=i.le;obtain⟨j,d⟩: ∃j:Nat,index cols nm=(j:Int):=⟨(index cols nm).toNat,by omega⟩;obtain⟨I,Q,⟨z,B,C⟩,rfl,b,s,p,q,x,T⟩:=i.val (show j<n3 by omega);have r:Hl (row.getD (index cols nm).toNat iG=⟨z,B,C⟩):=Hm (by rw[d,Int.toNat_natCast,List.getD,(iR s.o).1];rfl);have O:(0:Int)<=(j:Int):=by omega
 have P:(j:Int)<(n3:Int):=by omega
 go_enter Tryz.func161,Tryz.ntmps161;go_wp2_with fail;obtain⟨y,k,Z,D,E,F,G,H, -,a⟩:=Dq w 1 kd n g st nm;rw[<-k];clear k;have N:w.heap.size<y.heap.size:=Nat.lt_trans (show w.heap.size<w.heap.size+1 by omega) Z.o.lt;refine(rA _ _ _ _ cols (h.below a) nm).mono ?_;rintro e S ⟨rfl,rfl⟩;rw[d];clear t u d;have p:=fO a b p;have q:=fO a b q;have R:=fO a b x;obtain⟨U,V,W,J,f1,K,_⟩:=Z.o;go_wp2;refine tF rfl Z.o rfl rfl ⟨by rw[r.o],gK a (by omega) _ _ _⟩
theorem uR (g:List Zone)(x:Node)(E:shaped x=true)(k:x.ok)(G:x.op≠21)(m:Nat)(l:arity x.op x.arity=(m:Int))(w:World)(A:Option Addr)(c:Nat)(xs:List Val)(o:In w A m c xs)(n: ∀v∈xs,valid v=true)(a:Option Addr)(d c1:Nat)(cols:List Col)(B:In w a d c1 cols)(A3:Option Addr)(n3 c3:Nat)(row:List Val)(D:In w A3 n3 c3 row)(hi:x.op=1->0<=index cols x.name/\index cols x.name<n3)(A2:Option Addr)(n2 c2:Nat)(F:In w A2 n2 c2 g):
  Calls Tryz.prog 161 #[.agg x.cells.toArray,.slice A m c,.slice a d c1,.slice A3 n3 c3,.slice A2 n2 c2] w λe w'=>e=.returned (.agg (lT cols row g x xs).cells.toArray)/\Below w.heap.size w w':=by
 have C:=k.2.2.2.2;obtain⟨f,⟨kd,p,st⟩,nm,i⟩:=x;simp only[Fq]at l C hi;clear E k;by_cases j:f=1
 ·subst j;exact PG kd p i st nm w A m c a d c1 cols B A3 n3 c3 row D _ (hi rfl).1 (hi rfl).2
 simp only[lT];rw[if_neg j];have e:m=2:=by
  have h:f=12\/f=13:=by omega
  rcases h with rfl|rfl<;>(simp[arity]at l;omega)
 subst e;obtain⟨⟨s,t,xs⟩,⟨u,y,z⟩,b,off,rfl,rfl⟩:=o.len2;have q:=n ⟨s,t,xs⟩ (by simp);have r:=n ⟨u,y,z⟩ (by simp);exact O9 f g kd p i st nm w b off c s t u y xs z o (by omega) (Cm q) (Cm r) (Cn q) (Cn r) a d c1 A3 n3 c3 A2 n2 c2 F
def Ev:List Node:=[⟨1,⟨0,0,⟨#[]⟩⟩,nV,0⟩,⟨1,⟨0,0,⟨#[]⟩⟩,N8,0⟩,⟨13,⟨0,0,⟨#[]⟩⟩,⟨#[]⟩,0⟩]
def nR:ByteArray:=⟨#[114]⟩
def nO:ByteArray:=⟨#[111]⟩
def nI (nm e:ByteArray)(k:Int)(a:List ByteArray)(c:ByteArray)(b:List ByteArray)(hi:Int)(cond:List Node)(d:Int):Chk:=⟨nm,e,k,a,c,b,0,hi,cond,0,0,0,0,d⟩
def qy (nm b:ByteArray)(a:Int):List Chk:=
 [nI nm b 0 [tu] ⟨#[]⟩ [] 0 [] a,nI nm b 0 [N8] ⟨#[]⟩ [] 0 [] a,nI nm b 0 [nV] ⟨#[]⟩ [] 0 [] a,
  nI nm b 1 [tu] ⟨#[]⟩ [] 0 [] a,nI nm b 1 [N8] ⟨#[]⟩ [] 0 [] a,nI nm b 1 [nV] ⟨#[]⟩ [] 0 [] a,
  nI nm b 2 [nV] ⟨#[]⟩ [] 3 [] a,nI nm b 3 [tu] nO [tu] 0 [] a,nI nm b 4 [] ⟨#[]⟩ [] 0 Ev a]
def kL (c:Chk):Prop:= ∃a,(a=0\/a=1)/\c∈qy c.name c.table a
theorem zu:(∀c∈qy ⟨#[]⟩ ⟨#[]⟩ 0,gQ c lQ lQ []=0)/\ ∀c∈qy ⟨#[]⟩ ⟨#[]⟩ 1,gQ c lQ lQ []=0:=⟨by decide+kernel,by decide+kernel⟩
theorem DU (c:Chk)(a b:ByteArray)(cols d:List Col)(zs:List Zone):gQ {c with name:=a,table:=b} cols d zs=gQ c cols d zs:=rfl
theorem BL {c:Chk}(h:kL c):gQ c lQ lQ []=0:=by
 obtain⟨d,b,a⟩:=h;rw[<-DU c ⟨#[]⟩ ⟨#[]⟩];rcases b with rfl|rfl
 ·refine zu.1 _ ?_;simp only[qy,List.mem_cons,List.not_mem_nil,or_false]at a⊢;rcases a with h|h|h|h|h|h|h|h|h<;>rw[h]<;>simp[nI]
 ·refine zu.2 _ ?_;simp only[qy,List.mem_cons,List.not_mem_nil,or_false]at a⊢;rcases a with h|h|h|h|h|h|h|h|h<;>rw[h]<;>simp[nI]
theorem FT {c:Chk}(h:kL c):(kI c.kind=false/\c.other=⟨#[]⟩)\/(kI c.kind=true/\c.other=nO):=by
 obtain⟨d,b,a⟩:=h;simp only[qy,List.mem_cons,List.not_mem_nil,or_false]at a;rcases a with h|h|h|h|h|h|h|h|h<;>rw[h]<;>simp[nI,kI]
theorem ru {c:Chk}(h:kL c):c.cols.length<=4096/\c.ocols.length<=4096:=by
 obtain⟨d,b,a⟩:=h;simp only[qy,List.mem_cons,List.not_mem_nil,or_false]at a;rcases a with h|h|h|h|h|h|h|h|h<;>rw[h]<;>simp[nI]
theorem qE {c:Chk}(h:kL c){o:Rel}(f:o.name=nO):(gI c [o]).1=0/\(kI c.kind=true->(gI c [o]).2=o):=by
 rcases FT h with ⟨b,a⟩|⟨b,a⟩
 ·rw[gI,a,if_pos (by decide+kernel)];exact⟨rfl,λe=>by rw[b]at e;cases e⟩
 ·have d:[o].find? (zN c.other)=some o:=by rw[List.find?_cons,show zN c.other o=true from by rw[zN,f,a];decide+kernel]
  rw[gI,d,if_neg (by rw[a];decide+kernel)];exact⟨rfl,λ_=>rfl⟩
theorem Iw {c:Chk}(h:kI c.kind=false)(cols a b:List Col)(zs:List Zone):gQ c cols a zs=gQ c cols b zs:=by
 simp only[gQ,mR,h];simp
theorem Ml {c:Chk}(h:kI c.kind=false)(cols d f:List Col)(a g i:List Ent)(zs:List Zone)(row:List Val):iU c cols d a g zs row=iU c cols f a i zs row:=by
 have b:c.kind≠3:=λe=>by rw[e]at h;simp[kI]at h
 simp only[iU,b,if_false]
theorem vD {c:Chk}(h:kL c){rows b:List Ent}(e:iL lQ rows=0)(f:iL lQ b=0)(a:List Col)(d:List Ent)(g:kI c.kind=true->a=lQ/\d=b):
  gP c lQ a rows d []=0/\ ∀row,iU c lQ a rows d [] row=iU c lQ lQ rows b [] row:=by
 cases q:kI c.kind
 ·refine⟨?_,λrow=>Ml q _ _ _ _ _ _ _ _⟩;rw[gP,Iw q lQ a lQ,BL h,e,q];simp
 ·obtain⟨rfl,rfl⟩:=g q;refine⟨?_,λrow=>rfl⟩;rw[gP,BL h,e,f];simp
section
variable {rows a:List Ent}{ks ko:List (List ByteArray)}{cs:List Chk}{ws:List Wvr}
def uW (rows:List Ent)(ks:List (List ByteArray)):Rel:=⟨nR,lQ,ks,rows⟩
def kT (rows:List Ent)(ks:List (List ByteArray)):Rel:=⟨nO,lQ,ks,rows⟩
theorem FU {c:Chk}(h:kL c)(g:iL lQ rows=0)(f:iL lQ a=0):wQ (uW rows ks) [kT a ko] [] c=0:=by
 obtain⟨b,d⟩:=qE h (o:=kT a ko) rfl;have e:=(vD h g f (gI c [kT a ko]).2.columns (gI c [kT a ko]).2.rows λu=>by rw[d u];exact⟨rfl,rfl⟩).1;rw[wQ,if_neg (by simp[b]),rP,jg,if_neg (by
  show ¬gP c lQ _ rows _ []≠0;rw[e];simp)]
theorem KY {c:Chk}(h:kL c)(e:iL lQ rows=0)(d:iL lQ a=0)(row:List Val):PH (uW rows ks) [kT a ko] [] c row=iU c lQ lQ rows a [] row:=by
 obtain⟨f,b⟩:=qE h (o:=kT a ko) rfl;exact(vD h e d _ _ λu=>by rw[b u];exact⟨rfl,rfl⟩).2 row
theorem Kh:gu lQ=0:=by decide+kernel
def Lr (rows a:List Ent)(ws:List Wvr)(cs:List Chk)(row:List Val):List ByteArray:=((kr cs nR).filter λc=>iU c lQ lQ rows a [] row&&!kK ws c.name row).map Chk.name
def Pt (rows a:List Ent)(ws:List Wvr)(cs:List Chk)(row:List Val):Bool:=!(Lr rows a ws cs row).isEmpty
theorem O1 (d: ∀c∈cs,kL c)(f:iL lQ rows=0)(e:iL lQ a=0)(row:List Val):Pf (uW rows ks) [kT a ko] ws [] (kr cs nR) row=Lr rows a ws cs row:=by
 rw[Pf,Lr]
 congr 1
 refine List.filter_congr λc b=>?_;rw[KY (d c (List.mem_filter.1 b).1) f e]
theorem MU (d: ∀c∈cs,kL c)(b:iL lQ rows=0)(e:iL lQ a=0):
  Am (uW rows ks) cs [kT a ko] ws []=(0,rows.filter (λx=>!Pt rows a ws cs x.row),(rows.filter λx=>Pt rows a ws cs x.row).map λx=>⟨nR,x.row,x.count,Lr rows a ws cs x.row⟩):=by
 have f:=OM (r:=uW rows ks) (cs:=cs) (others:=[kT a ko]) (ws:=ws) (zs:=[]) Kh b λc g=>FU (d c (List.mem_filter.1 g).1) b e;rw[f];simp only[zg,Pt,show(uW rows ks).name=nR from rfl,show(uW rows ks).rows=rows from rfl,O1 d b e]
end
theorem Kk {rows:List Ent}(hb:gN rows=0)(p:List Val->Bool){x:Ent}(a:x∈rows):cntF (rows.filter λx=>p x.row) x.row=if p x.row=true then x.count else 0:=by
 rw[((nK hb).filter _).cntF]
 split
 ·next q=>rw[qO λy b e=>by rw[e];exact q,(nK hb).mem a]
 ·next q=>exact qN λy b e=>by rw[e];simpa using q
def I9:Chk:=⟨⟨#[117]⟩,nR,0,[⟨#[97]⟩],⟨#[]⟩,[],0,0,[],0,0,0,0,0⟩
def Ja:Chk:=⟨⟨#[103]⟩,nR,2,[⟨#[98]⟩],⟨#[]⟩,[],0,5,[],0,0,0,0,0⟩
def CU:List Ent:=[⟨[iV 1,iV 1],1⟩,⟨[iV 1,iV 2],1⟩,⟨[iV 2,iV 9],3⟩]
def OZ:Rel:=⟨nR,CR,[],CU⟩
def La:List Wvr:=[⟨⟨#[117]⟩,[iV 1,iV 2]⟩,⟨⟨#[117]⟩,[iV 2,iV 9]⟩]
def xx:Int×List Ent×List Quar:=Am OZ [I9,Ja] [] La []
theorem Ny:xx.1=0/\xx.2.1.length=1/\(xx.2.1.getD 0 default).row.length=2/\((xx.2.1.getD 0 default).row.getD 1 default).num=2/\xx.2.2.length=2/\
  (xx.2.2.getD 0 default).relation.toList=[114]/\(xx.2.2.getD 0 default).checks.length=1/\((xx.2.2.getD 0 default).checks.getD 0 ⟨#[]⟩).toList=[117]/\
  (xx.2.2.getD 1 default).count=3/\(xx.2.2.getD 1 default).checks.length=1/\((xx.2.2.getD 1 default).checks.getD 0 ⟨#[]⟩).toList=[103]:=by decide+kernel
end Go.Proofs.YtopjjlmfilgngaaGreatDoor
