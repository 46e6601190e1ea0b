/-
  warehouseref9.value: it returns nodeV. (Printed by gen_val9.py.)
-/
import Derived.Test.YthnelebakkggjaaGreatDoorGaz
import Derived.Test.YthnelebakkggjaaGreatDoorArB
namespace Go.Proofs.YthnelebakkggjaaGreatDoor
set_option maxHeartbeats 2000000
set_option maxRecDepth 100000
open Go.RowKit
set_option linter.unusedSimpArgs false
set_option linter.unusedVariables false
theorem NI (d:List Zone)(kd a b:Int)(st nm:ByteArray)(w:World)(A:Option Addr)(c:Nat)(h:Option Addr)(j c1:Nat)(A3:Option Addr)(n3 c3:Nat)(f:Option Addr)(g c2:Nat)(k:In w f g c2 d):
  Calls Tryz.prog 163 #[.agg #[.int .i64 0,.int .i64 kd,.int .i64 a,.string st,.string nm,.int .i64 b],.slice A 0 c,.slice h j c1,.slice A3 n3 c3,.slice f g c2] w λe w'=>e=.returned (.agg (jl d ⟨0,⟨kd,a,st⟩,nm,b⟩ ([]:List Val)).cells.toArray)/\Below w.heap.size w w':=by
 have i:Hl (jl d ⟨0,⟨kd,a,st⟩,nm,b⟩ ([]:List Val)=⟨kd,a,st⟩):=Hm (by rfl);go_enter Tryz.func163,Tryz.ntmps163;go_wp2;refine bodyPost_ret (v:=.agg (Val.cells ⟨kd,a,st⟩).toArray) (by simp[results,Tryz.results163,go_sem,Val.cells]) rfl ⟨by rw[i.o],by first|exact below_alloc2|exact eT below_alloc2 Ho _ _ _⟩
theorem Nu (y:List Zone)(kd n m:Int)(st nm:ByteArray)(w:World)(b off:Nat)(c:Nat)(f g h i:Int)(xs j:ByteArray)(D:In w (some ⟨b,off,none⟩) 2 c ([⟨f,g,xs⟩,⟨h,i,j⟩]:List Val))(M:Option Addr)(Q c1:Nat)(A3:Option Addr)(n3 c3:Nat)(z:Option Addr)(E c2:Nat)(hz:In w z E c2 y):
  Calls Tryz.prog 163 #[.agg #[.int .i64 14,.int .i64 kd,.int .i64 n,.string st,.string nm,.int .i64 m],.slice (some ⟨b,off,none⟩) 2 c,.slice M Q c1,.slice A3 n3 c3,.slice z E c2] w λe w'=>e=.returned (.agg (jl y ⟨14,⟨kd,n,st⟩,nm,m⟩ ([⟨f,g,xs⟩,⟨h,i,j⟩]:List Val)).cells.toArray)/\Below w.heap.size w w':=by
 have O:Hl (jl y ⟨14,⟨kd,n,st⟩,nm,m⟩ ([⟨f,g,xs⟩,⟨h,i,j⟩]:List Val)=iP ⟨f,g,xs⟩ ⟨h,i,j⟩ 0):=Hm (by rfl);obtain⟨p,R,S⟩:=fu D (show 0<2 by omega) (x:=⟨f,g,xs⟩) rfl;obtain⟨p,T,U⟩:=fu D (show 1<2 by omega) (x:=⟨h,i,j⟩) rfl;go_enter Tryz.func163,Tryz.ntmps163;go_upto_region 7 with (fail);obtain⟨F,C,Z,W,X,Y,N3,N4, -,l⟩:=jh w 14 kd n m st nm;rw[<-C];clear C;have aa:w.heap.size<F.heap.size:=Nat.lt_trans (show w.heap.size<w.heap.size+1 by omega) Z.o.lt;have k:b<F.heap.size:=by have:=l.size;omega
 have a:¬b=w.heap.size+1:=by omega
 obtain⟨q,r,s⟩:=V3.b R l p;obtain⟨t,u,v⟩:=V3.b T l p;simp only[Nat.zero_mul,Nat.one_mul,Nat.add_zero,Nat.reduceMul]at q r s t u v;go_region_held3 (λV=>V.cell? ⟨b,off,none⟩=some (.int .i64 f)/\V.cell? ⟨b,off+1,none⟩=some (.int .i64 g)/\V.cell? ⟨b,off+2,none⟩=some (.string xs)/\V.cell? ⟨b,off+3,none⟩=some (.int .i64 h)/\V.cell? ⟨b,off+3+1,none⟩=some (.int .i64 i)/\V.cell? ⟨b,off+3+2,none⟩=some (.string j)) (first|exact⟨q,r,s,t,u,v⟩|exact⟨G,H,I,J,K,L⟩|exact⟨eD (eD (eD G (.inl a)) (.inl a)) (.inl a),eD (eD (eD H (.inl a)) (.inl a)) (.inl a),eD (eD (eD I (.inl a)) (.inl a)) (.inl a),eD (eD (eD J (.inl a)) (.inl a)) (.inl a),eD (eD (eD K (.inl a)) (.inl a)) (.inl a),eD (eD (eD L (.inl a)) (.inl a)) (.inl a)⟩) (first|(go_at_call 185;refine(AZ ⟨f,g,xs⟩ ⟨h,i,j⟩ S U 0 _).mono ?_;rintro e w1 ⟨rfl,A⟩;have d:=eF A;have G:=eG d k q;have H:=eG d k r;have I:=eG d k s;have J:=eG d k t;have K:=eG d k u;have L:=eG d k v;have Z:=Hm (Z.o.b d);have l:=eu l d;clear A;obtain⟨z0,z1,z2,f0,f1,f2,_⟩:=Z.o;generalize B:iP ⟨f,g,xs⟩ ⟨h,i,j⟩ 0=P;obtain⟨bk,bn,bs⟩:=P;have N:=Hm B;clear B;simp only[Val.cells]));go_wp2;refine jU rfl Z.o rfl rfl ⟨by rw[O.o,N.o],eT l Ho _ _ _⟩
theorem Nv (y:List Zone)(kd n m:Int)(st nm:ByteArray)(w:World)(b off:Nat)(c:Nat)(f g h i:Int)(xs j:ByteArray)(D:In w (some ⟨b,off,none⟩) 2 c ([⟨f,g,xs⟩,⟨h,i,j⟩]:List Val))(M:Option Addr)(Q c1:Nat)(A3:Option Addr)(n3 c3:Nat)(z:Option Addr)(E c2:Nat)(hz:In w z E c2 y):
  Calls Tryz.prog 163 #[.agg #[.int .i64 15,.int .i64 kd,.int .i64 n,.string st,.string nm,.int .i64 m],.slice (some ⟨b,off,none⟩) 2 c,.slice M Q c1,.slice A3 n3 c3,.slice z E c2] w λe w'=>e=.returned (.agg (jl y ⟨15,⟨kd,n,st⟩,nm,m⟩ ([⟨f,g,xs⟩,⟨h,i,j⟩]:List Val)).cells.toArray)/\Below w.heap.size w w':=by
 have O:Hl (jl y ⟨15,⟨kd,n,st⟩,nm,m⟩ ([⟨f,g,xs⟩,⟨h,i,j⟩]:List Val)=iP ⟨f,g,xs⟩ ⟨h,i,j⟩ 1):=Hm (by rfl);obtain⟨p,R,S⟩:=fu D (show 0<2 by omega) (x:=⟨f,g,xs⟩) rfl;obtain⟨p,T,U⟩:=fu D (show 1<2 by omega) (x:=⟨h,i,j⟩) rfl;go_enter Tryz.func163,Tryz.ntmps163;go_upto_region 9 with (fail);obtain⟨F,C,Z,W,X,Y,N3,N4, -,l⟩:=jh w 15 kd n m st nm;rw[<-C];clear C;have aa:w.heap.size<F.heap.size:=Nat.lt_trans (show w.heap.size<w.heap.size+1 by omega) Z.o.lt;have k:b<F.heap.size:=by have:=l.size;omega
 have a:¬b=w.heap.size+1:=by omega
 obtain⟨q,r,s⟩:=V3.b R l p;obtain⟨t,u,v⟩:=V3.b T l p;simp only[Nat.zero_mul,Nat.one_mul,Nat.add_zero,Nat.reduceMul]at q r s t u v;go_region_held3 (λV=>V.cell? ⟨b,off,none⟩=some (.int .i64 f)/\V.cell? ⟨b,off+1,none⟩=some (.int .i64 g)/\V.cell? ⟨b,off+2,none⟩=some (.string xs)/\V.cell? ⟨b,off+3,none⟩=some (.int .i64 h)/\V.cell? ⟨b,off+3+1,none⟩=some (.int .i64 i)/\V.cell? ⟨b,off+3+2,none⟩=some (.string j)) (first|exact⟨q,r,s,t,u,v⟩|exact⟨G,H,I,J,K,L⟩|exact⟨eD (eD (eD G (.inl a)) (.inl a)) (.inl a),eD (eD (eD H (.inl a)) (.inl a)) (.inl a),eD (eD (eD I (.inl a)) (.inl a)) (.inl a),eD (eD (eD J (.inl a)) (.inl a)) (.inl a),eD (eD (eD K (.inl a)) (.inl a)) (.inl a),eD (eD (eD L (.inl a)) (.inl a)) (.inl a)⟩) (first|(go_at_call 185;refine(AZ ⟨f,g,xs⟩ ⟨h,i,j⟩ S U 1 _).mono ?_;rintro e w1 ⟨rfl,A⟩;have d:=eF A;have G:=eG d k q;have H:=eG d k r;have I:=eG d k s;have J:=eG d k t;have K:=eG d k u;have L:=eG d k v;have Z:=Hm (Z.o.b d);have l:=eu l d;clear A;obtain⟨z0,z1,z2,f0,f1,f2,_⟩:=Z.o;generalize B:iP ⟨f,g,xs⟩ ⟨h,i,j⟩ 1=P;obtain⟨bk,bn,bs⟩:=P;have N:=Hm B;clear B;simp only[Val.cells]));go_wp2;refine jU rfl Z.o rfl rfl ⟨by rw[O.o,N.o],eT l Ho _ _ _⟩
theorem Nw (j:List Zone)(kd g f:Int)(st nm:ByteArray)(w:World)(b off:Nat)(c:Nat)(a h:Int)(xs:ByteArray)(v:In w (some ⟨b,off,none⟩) 1 c ([⟨a,h,xs⟩]:List Val))(q:Option Addr)(y c1:Nat)(A3:Option Addr)(n3 c3:Nat)(k:Option Addr)(n c2:Nat)(Q:In w k n c2 j):
  Calls Tryz.prog 163 #[.agg #[.int .i64 16,.int .i64 kd,.int .i64 g,.string st,.string nm,.int .i64 f],.slice (some ⟨b,off,none⟩) 1 c,.slice q y c1,.slice A3 n3 c3,.slice k n c2] w λe w'=>e=.returned (.agg (jl j ⟨16,⟨kd,g,st⟩,nm,f⟩ ([⟨a,h,xs⟩]:List Val)).cells.toArray)/\Below w.heap.size w w':=by
 have s:Hl (jl j ⟨16,⟨kd,g,st⟩,nm,f⟩ ([⟨a,h,xs⟩]:List Val)=iM (a==0)):=Hm (by rfl);obtain⟨u,C,S⟩:=fu v (show 0<1 by omega) (x:=⟨a,h,xs⟩) rfl;go_enter Tryz.func163,Tryz.ntmps163;go_upto_region 11 with (fail);obtain⟨p,m,Z,D,E,F,G,H, -,d⟩:=jh w 16 kd g f st nm;rw[<-m];clear m;have O:w.heap.size<p.heap.size:=Nat.lt_trans (show w.heap.size<w.heap.size+1 by omega) Z.o.lt;have N:b<p.heap.size:=by have:=d.size;omega
 have P:¬b=w.heap.size+1:=by omega
 obtain⟨z,A,B⟩:=V3.b C d u;simp only[Nat.zero_mul,Nat.one_mul,Nat.add_zero,Nat.reduceMul]at z A B;go_wp2_with fail;refine(mW (a==0) _).mono ?_;rintro e R ⟨rfl,i⟩;have Z:=Hm (Z.o.b i);have d:=eu d i;clear i;obtain⟨T,U,V,L,f1,M,_⟩:=Z.o;generalize l:iM (a==0)=t;obtain⟨I,J,K⟩:=t;have r:=Hm l;clear l;simp only[Val.cells];go_wp2;refine jU rfl Z.o rfl rfl ⟨by rw[s.o,r.o],eT d Ho _ _ _⟩
theorem MV (D:List Zone)(kd n m:Int)(st nm:ByteArray)(w:World)(b off:Nat)(c:Nat)(f g j k r s:Int)(xs l zs:ByteArray)(u:In w (some ⟨b,off,none⟩) 3 c ([⟨f,g,xs⟩,⟨j,k,l⟩,⟨r,s,zs⟩]:List Val))(q:(truth ⟨f,g,xs⟩==1)=true)(I:Option Addr)(L c1:Nat)(A3:Option Addr)(n3 c3:Nat)(E:Option Addr)(G c2:Nat)(hz:In w E G c2 D):
  Calls Tryz.prog 163 #[.agg #[.int .i64 17,.int .i64 kd,.int .i64 n,.string st,.string nm,.int .i64 m],.slice (some ⟨b,off,none⟩) 3 c,.slice I L c1,.slice A3 n3 c3,.slice E G c2] w λe w'=>e=.returned (.agg (jl D ⟨17,⟨kd,n,st⟩,nm,m⟩ ([⟨f,g,xs⟩,⟨j,k,l⟩,⟨r,s,zs⟩]:List Val)).cells.toArray)/\Below w.heap.size w w':=by
 have K:Hl (jl D ⟨17,⟨kd,n,st⟩,nm,m⟩ ([⟨f,g,xs⟩,⟨j,k,l⟩,⟨r,s,zs⟩]:List Val)=⟨j,k,l⟩):=Hm (by simp only[jl];rw[if_pos (by simpa using q)]);obtain⟨i,P,Q⟩:=fu u (show 0<3 by omega) (x:=⟨f,g,xs⟩) rfl;obtain⟨i,R,ac⟩:=fu u (show 1<3 by omega) (x:=⟨j,k,l⟩) rfl;obtain⟨i,S,ad⟩:=fu u (show 2<3 by omega) (x:=⟨r,s,zs⟩) rfl;obtain⟨p,t⟩: ∃p,truth ⟨f,g,xs⟩=p:=⟨_,rfl⟩;rw[t]at q;have J:=Hm t;clear t;go_enter Tryz.func163,Tryz.ntmps163;go_upto_region 13 with (fail);obtain⟨H,F,Z,T,U,V,W,X, -,d⟩:=jh w 17 kd n m st nm;rw[<-F];clear F;have aa:w.heap.size<H.heap.size:=Nat.lt_trans (show w.heap.size<w.heap.size+1 by omega) Z.o.lt;have h:b<H.heap.size:=by have:=d.size;omega
 have ab:¬b=w.heap.size+1:=by omega
 obtain⟨M,N,O⟩:=V3.b P d i;obtain⟨v,y,z⟩:=V3.b R d i;obtain⟨A,B,C⟩:=V3.b S d i;simp only[Nat.zero_mul,Nat.one_mul,Nat.add_zero,Nat.reduceMul]at M N O v y z A B C;go_wp2_with fail;refine(sF ⟨f,g,xs⟩ Q _).mono ?_;rintro e w1 ⟨rfl,a⟩;have v:=eG a h v;have y:=eG a h y;have z:=eG a h z;have A:=eG a h A;have B:=eG a h B;have C:=eG a h C;have Z:=Hm (Z.o.b a);have d:=eu d a;clear a;rw[J.o];obtain⟨q0,q1,q2,Y,f1,f2,_⟩:=Z.o;go_wp2;refine jU rfl Z.o rfl rfl ⟨by rw[K.o],eT d Ho _ _ _⟩
theorem MU (D:List Zone)(kd m l:Int)(st nm:ByteArray)(w:World)(b off:Nat)(c:Nat)(f g n r j k:Int)(xs s zs:ByteArray)(u:In w (some ⟨b,off,none⟩) 3 c ([⟨f,g,xs⟩,⟨n,r,s⟩,⟨j,k,zs⟩]:List Val))(q:(truth ⟨f,g,xs⟩==1)=false)(I:Option Addr)(L c1:Nat)(A3:Option Addr)(n3 c3:Nat)(E:Option Addr)(G c2:Nat)(hz:In w E G c2 D):
  Calls Tryz.prog 163 #[.agg #[.int .i64 17,.int .i64 kd,.int .i64 m,.string st,.string nm,.int .i64 l],.slice (some ⟨b,off,none⟩) 3 c,.slice I L c1,.slice A3 n3 c3,.slice E G c2] w λe w'=>e=.returned (.agg (jl D ⟨17,⟨kd,m,st⟩,nm,l⟩ ([⟨f,g,xs⟩,⟨n,r,s⟩,⟨j,k,zs⟩]:List Val)).cells.toArray)/\Below w.heap.size w w':=by
 have K:Hl (jl D ⟨17,⟨kd,m,st⟩,nm,l⟩ ([⟨f,g,xs⟩,⟨n,r,s⟩,⟨j,k,zs⟩]:List Val)=⟨j,k,zs⟩):=Hm (by simp only[jl];rw[if_neg (by simpa using q)]);obtain⟨i,P,Q⟩:=fu u (show 0<3 by omega) (x:=⟨f,g,xs⟩) rfl;obtain⟨i,R,ac⟩:=fu u (show 1<3 by omega) (x:=⟨n,r,s⟩) rfl;obtain⟨i,S,ad⟩:=fu u (show 2<3 by omega) (x:=⟨j,k,zs⟩) rfl;obtain⟨p,t⟩: ∃p,truth ⟨f,g,xs⟩=p:=⟨_,rfl⟩;rw[t]at q;have J:=Hm t;clear t;go_enter Tryz.func163,Tryz.ntmps163;go_upto_region 13 with (fail);obtain⟨H,F,Z,T,U,V,W,X, -,d⟩:=jh w 17 kd m l st nm;rw[<-F];clear F;have aa:w.heap.size<H.heap.size:=Nat.lt_trans (show w.heap.size<w.heap.size+1 by omega) Z.o.lt;have h:b<H.heap.size:=by have:=d.size;omega
 have ab:¬b=w.heap.size+1:=by omega
 obtain⟨M,N,O⟩:=V3.b P d i;obtain⟨v,y,z⟩:=V3.b R d i;obtain⟨A,B,C⟩:=V3.b S d i;simp only[Nat.zero_mul,Nat.one_mul,Nat.add_zero,Nat.reduceMul]at M N O v y z A B C;go_wp2_with fail;refine(sF ⟨f,g,xs⟩ Q _).mono ?_;rintro e w1 ⟨rfl,a⟩;have v:=eG a h v;have y:=eG a h y;have z:=eG a h z;have A:=eG a h A;have B:=eG a h B;have C:=eG a h C;have Z:=Hm (Z.o.b a);have d:=eu d a;clear a;rw[J.o];obtain⟨q0,q1,q2,Y,f1,f2,_⟩:=Z.o;go_wp2;refine jU rfl Z.o rfl rfl ⟨by rw[K.o],eT d Ho _ _ _⟩
theorem Lx (l:List Zone)(kd k i:Int)(st nm:ByteArray)(w:World)(b off:Nat)(c:Nat)(a d f g:Int)(xs h:ByteArray)(s:In w (some ⟨b,off,none⟩) 2 c ([⟨a,d,xs⟩,⟨f,g,h⟩]:List Val))(v:Option Addr)(y c1:Nat)(A3:Option Addr)(n3 c3:Nat)(p:Option Addr)(t c2:Nat)(S:In w p t c2 l):
  Calls Tryz.prog 163 #[.agg #[.int .i64 18,.int .i64 kd,.int .i64 k,.string st,.string nm,.int .i64 i],.slice (some ⟨b,off,none⟩) 2 c,.slice v y c1,.slice A3 n3 c3,.slice p t c2] w λe w'=>e=.returned (.agg (jl l ⟨18,⟨kd,k,st⟩,nm,i⟩ ([⟨a,d,xs⟩,⟨f,g,h⟩]:List Val)).cells.toArray)/\Below w.heap.size w w':=by
 rcases Bool.eq_false_or_eq_true (a==0) with q|q;all_goals
  first|(have:=(show(a==0)=true from q);have m:Hl (jl l ⟨18,⟨kd,k,st⟩,nm,i⟩ ([⟨a,d,xs⟩,⟨f,g,h⟩]:List Val)=⟨f,g,h⟩):=Hm (by simp only[jl,Int.reduceEq,if_false,if_true];rw[if_pos (by simpa using q)]))|(have m:Hl (jl l ⟨18,⟨kd,k,st⟩,nm,i⟩ ([⟨a,d,xs⟩,⟨f,g,h⟩]:List Val)=⟨a,d,xs⟩):=Hm (by simp only[jl,Int.reduceEq,if_false,if_true];rw[if_neg (by simpa using q)]))
  obtain⟨n,D,T⟩:=fu s (show 0<2 by omega) (x:=⟨a,d,xs⟩) rfl;obtain⟨n,H,U⟩:=fu s (show 1<2 by omega) (x:=⟨f,g,h⟩) rfl
  first|(have:=(show(a==0)=true from q);have z:(a != 0)=false:=by simpa using q)|(have z:(a != 0)=true:=by simpa using q)
  go_enter Tryz.func163,Tryz.ntmps163;go_upto_region 17 with (fail);obtain⟨u,r,Z,I,J,K,L,M, -,j⟩:=jh w 18 kd k i st nm;rw[<-r];clear r;have Q:w.heap.size<u.heap.size:=Nat.lt_trans (show w.heap.size<w.heap.size+1 by omega) Z.o.lt;have P:b<u.heap.size:=by have:=j.size;omega
  have R:¬b=w.heap.size+1:=by omega
  obtain⟨A,B,C⟩:=V3.b D j n;obtain⟨E,F,G⟩:=V3.b H j n;simp only[Nat.zero_mul,Nat.one_mul,Nat.add_zero,Nat.reduceMul]at A B C E F G;obtain⟨V,W,X,N,f1,O,_⟩:=Z.o;go_wp2
  first|(have:=(show(a==0)=true from q);refine jU rfl Z.o rfl rfl ⟨by rw[m.o],eT j Ho _ _ _⟩)|(refine jU rfl Z.o rfl rfl ⟨by rw[m.o],eT j Ho _ _ _⟩)
theorem NK (m:List Zone)(kd l j:Int)(st nm:ByteArray)(w:World)(b off:Nat)(c:Nat)(a f:Int)(xs:ByteArray)(G:In w (some ⟨b,off,none⟩) 1 c ([⟨a,f,xs⟩]:List Val))(A:Option Addr)(H c1:Nat)(A3:Option Addr)(n3 c3:Nat)(s:Option Addr)(y c2:Nat)(hz:In w s y c2 m):
  Calls Tryz.prog 163 #[.agg #[.int .i64 2,.int .i64 kd,.int .i64 l,.string st,.string nm,.int .i64 j],.slice (some ⟨b,off,none⟩) 1 c,.slice A H c1,.slice A3 n3 c3,.slice s y c2] w λe w'=>e=.returned (.agg (jl m ⟨2,⟨kd,l,st⟩,nm,j⟩ ([⟨a,f,xs⟩]:List Val)).cells.toArray)/\Below w.heap.size w w':=by
 obtain⟨F,L,ac⟩:=fu G (show 0<1 by omega) (x:=⟨a,f,xs⟩) rfl;go_enter Tryz.func163,Tryz.ntmps163;go_upto_region 20 with (fail);obtain⟨z,u,Z,P,Q,R,S,T, -,g⟩:=jh w 2 kd l j st nm;rw[<-u];clear u;have aa:w.heap.size<z.heap.size:=Nat.lt_trans (show w.heap.size<w.heap.size+1 by omega) Z.o.lt;have X:b<z.heap.size:=by have:=g.size;omega
 have ab:¬b=w.heap.size+1:=by omega
 obtain⟨I,J,K⟩:=V3.b L g F;simp only[Nat.zero_mul,Nat.one_mul,Nat.add_zero,Nat.reduceMul]at I J K;obtain⟨M,N,O,D,f1,E,_⟩:=Z.o;go_wp2
 go_loop [11] (λi=> ∃k:Nat,k<=1/\i=.int .i64 k/\(0<k->¬a=0)) (λi=>1-(intOf i).toNat)
 case atStart=>exact⟨0,Ho,rfl,λh=>absurd h Ho⟩
 case round=>
  obtain⟨k,Y,rfl,p⟩:=hrel;obtain rfl|rfl:k=0\/k=1:=by omega
  ·clear p;by_cases d:a=0
   ·have n:Hl (jl m ⟨2,⟨kd,l,st⟩,nm,j⟩ ([⟨a,f,xs⟩]:List Val)=fP):=Hm (by simp only[jl,xR,Int.reduceEq,if_false];rw[if_pos d]);have q:(a==0)=true:=by simpa using d
    clear d;go_wp2;refine bodyPost_ret (v:=.agg (Val.cells fP).toArray) (fQ (cs:=Val.cells fP) rfl _ _ (w.heap.size+1) _ rfl (fM Z.o.c0 Z.o.c1 Z.o.c2) Tryz.underlying67 rfl (by kernel_rfl)) rfl ⟨by rw[n.o],eT g Ho _ _ _⟩
   ·have q:(a==0)=false:=by simpa using d
    go_wp2
    go_round
    case rel=>exact⟨1,Ho,by go_num,λ_=>d⟩
    case measure=>simp[intOf]
  ·have d:=p Ho;clear p;have n:Hl (jl m ⟨2,⟨kd,l,st⟩,nm,j⟩ ([⟨a,f,xs⟩]:List Val)=iM (f==0)):=Hm (by simp only[jl,xR,Int.reduceEq,if_false];rw[if_neg d];(try simp only[Int.reduceEq,if_false,if_true]));clear d;go_wp2_with fail;refine(mW (f==0) _).mono ?_;rintro e w3 ⟨rfl,r⟩;have Z:=Hm (Z.o.b r);have g:=eu g r;clear r;obtain⟨M,N,O,D,f1,E,_⟩:=Z.o;generalize t:iM (f==0)=C;obtain⟨U,V,W⟩:=C;have B:=Hm t;clear t;simp only[Val.cells];go_wp2;refine jU rfl Z.o rfl rfl ⟨by rw[n.o,B.o],eT g Ho _ _ _⟩
theorem NL (m:List Zone)(kd l j:Int)(st nm:ByteArray)(w:World)(b off:Nat)(c:Nat)(d a:Int)(xs:ByteArray)(G:In w (some ⟨b,off,none⟩) 1 c ([⟨d,a,xs⟩]:List Val))(H:eX a)(A:Option Addr)(I c1:Nat)(A3:Option Addr)(n3 c3:Nat)(s:Option Addr)(y c2:Nat)(hz:In w s y c2 m):
  Calls Tryz.prog 163 #[.agg #[.int .i64 3,.int .i64 kd,.int .i64 l,.string st,.string nm,.int .i64 j],.slice (some ⟨b,off,none⟩) 1 c,.slice A I c1,.slice A3 n3 c3,.slice s y c2] w λe w'=>e=.returned (.agg (jl m ⟨3,⟨kd,l,st⟩,nm,j⟩ ([⟨d,a,xs⟩]:List Val)).cells.toArray)/\Below w.heap.size w w':=by
 obtain⟨F,M,ac⟩:=fu G (show 0<1 by omega) (x:=⟨d,a,xs⟩) rfl;go_enter Tryz.func163,Tryz.ntmps163;go_upto_region 20 with (fail);obtain⟨z,u,Z,Q,R,S,T,U, -,g⟩:=jh w 3 kd l j st nm;rw[<-u];clear u;have aa:w.heap.size<z.heap.size:=Nat.lt_trans (show w.heap.size<w.heap.size+1 by omega) Z.o.lt;have Y:b<z.heap.size:=by have:=g.size;omega
 have ab:¬b=w.heap.size+1:=by omega
 obtain⟨J,K,L⟩:=V3.b M g F;simp only[Nat.zero_mul,Nat.one_mul,Nat.add_zero,Nat.reduceMul]at J K L;obtain⟨N,O,P,D,f1,E,_⟩:=Z.o;go_wp2
 go_loop [11] (λi=> ∃k:Nat,k<=1/\i=.int .i64 k/\(0<k->¬d=0)) (λi=>1-(intOf i).toNat)
 case atStart=>exact⟨0,Ho,rfl,λh=>absurd h Ho⟩
 case round=>
  obtain⟨k,hk,rfl,p⟩:=hrel;obtain rfl|rfl:k=0\/k=1:=by omega
  ·clear p;by_cases f:d=0
   ·have n:Hl (jl m ⟨3,⟨kd,l,st⟩,nm,j⟩ ([⟨d,a,xs⟩]:List Val)=fP):=Hm (by simp only[jl,xR,Int.reduceEq,if_false];rw[if_pos f]);have q:(d==0)=true:=by simpa using f
    clear f;go_wp2;refine bodyPost_ret (v:=.agg (Val.cells fP).toArray) (fQ (cs:=Val.cells fP) rfl _ _ (w.heap.size+1) _ rfl (fM Z.o.c0 Z.o.c1 Z.o.c2) Tryz.underlying67 rfl (by kernel_rfl)) rfl ⟨by rw[n.o],eT g Ho _ _ _⟩
   ·have q:(d==0)=false:=by simpa using f
    go_wp2
    go_round
    case rel=>exact⟨1,Ho,by go_num,λ_=>f⟩
    case measure=>simp[intOf]
  ·have f:=p Ho;clear p;have n:Hl (jl m ⟨3,⟨kd,l,st⟩,nm,j⟩ ([⟨d,a,xs⟩]:List Val)=jb (kR 0 a).1 (kR 0 a).2):=Hm (by simp only[jl,xR,Int.reduceEq,if_false];rw[if_neg f];(try simp only[Int.reduceEq,if_false,if_true]));clear f;go_wp2_with fail;refine(Ch 0 a (by unfold eX;omega) H _).mono ?_;rintro e w' ⟨rfl,rfl⟩;go_wp2_with fail;refine(nJ _ _ _).mono ?_;rintro e w3 ⟨rfl,r⟩;have Z:=Hm (Z.o.b r);have g:=eu g r;clear r;obtain⟨N,O,P,D,f1,E,_⟩:=Z.o;generalize t:jb (kR 0 a).1 (kR 0 a).2=C;obtain⟨V,W,X⟩:=C;have B:=Hm t;clear t;simp only[Val.cells];go_wp2;refine jU rfl Z.o rfl rfl ⟨by rw[n.o,B.o],eT g Ho _ _ _⟩
theorem Ny (m:List Zone)(kd j g:Int)(st nm:ByteArray)(w:World)(b off:Nat)(c:Nat)(a l:Int)(xs:ByteArray)(G:In w (some ⟨b,off,none⟩) 1 c ([⟨a,l,xs⟩]:List Val))(A:Option Addr)(H c1:Nat)(A3:Option Addr)(n3 c3:Nat)(s:Option Addr)(y c2:Nat)(hz:In w s y c2 m):
  Calls Tryz.prog 163 #[.agg #[.int .i64 19,.int .i64 kd,.int .i64 j,.string st,.string nm,.int .i64 g],.slice (some ⟨b,off,none⟩) 1 c,.slice A H c1,.slice A3 n3 c3,.slice s y c2] w λe w'=>e=.returned (.agg (jl m ⟨19,⟨kd,j,st⟩,nm,g⟩ ([⟨a,l,xs⟩]:List Val)).cells.toArray)/\Below w.heap.size w w':=by
 obtain⟨F,L,ac⟩:=fu G (show 0<1 by omega) (x:=⟨a,l,xs⟩) rfl;go_enter Tryz.func163,Tryz.ntmps163;go_upto_region 20 with (fail);obtain⟨z,u,Z,P,Q,R,S,T, -,f⟩:=jh w 19 kd j g st nm;rw[<-u];clear u;have aa:w.heap.size<z.heap.size:=Nat.lt_trans (show w.heap.size<w.heap.size+1 by omega) Z.o.lt;have X:b<z.heap.size:=by have:=f.size;omega
 have ab:¬b=w.heap.size+1:=by omega
 obtain⟨I,J,K⟩:=V3.b L f F;simp only[Nat.zero_mul,Nat.one_mul,Nat.add_zero,Nat.reduceMul]at I J K;obtain⟨M,N,O,D,f1,E,_⟩:=Z.o;go_wp2
 go_loop [11] (λi=> ∃k:Nat,k<=1/\i=.int .i64 k/\(0<k->¬a=0)) (λi=>1-(intOf i).toNat)
 case atStart=>exact⟨0,Ho,rfl,λh=>absurd h Ho⟩
 case round=>
  obtain⟨k,Y,rfl,p⟩:=hrel;obtain rfl|rfl:k=0\/k=1:=by omega
  ·clear p;by_cases d:a=0
   ·have n:Hl (jl m ⟨19,⟨kd,j,st⟩,nm,g⟩ ([⟨a,l,xs⟩]:List Val)=fP):=Hm (by simp only[jl,xR,Int.reduceEq,if_false];rw[if_pos d]);have q:(a==0)=true:=by simpa using d
    clear d;go_wp2;refine bodyPost_ret (v:=.agg (Val.cells fP).toArray) (fQ (cs:=Val.cells fP) rfl _ _ (w.heap.size+1) _ rfl (fM Z.o.c0 Z.o.c1 Z.o.c2) Tryz.underlying67 rfl (by kernel_rfl)) rfl ⟨by rw[n.o],eT f Ho _ _ _⟩
   ·have q:(a==0)=false:=by simpa using d
    go_wp2
    go_round
    case rel=>exact⟨1,Ho,by go_num,λ_=>d⟩
    case measure=>simp[intOf]
  ·have d:=p Ho;clear p;have n:Hl (jl m ⟨19,⟨kd,j,st⟩,nm,g⟩ ([⟨a,l,xs⟩]:List Val)=jb xs.size true):=Hm (by simp only[jl,xR,Int.reduceEq,if_false];rw[if_neg d];(try simp only[Int.reduceEq,if_false,if_true]));clear d;go_wp2_with fail;refine(nJ xs.size true _).mono ?_;rintro e w3 ⟨rfl,r⟩;have Z:=Hm (Z.o.b r);have f:=eu f r;clear r;obtain⟨M,N,O,D,f1,E,_⟩:=Z.o;generalize t:jb xs.size true=C;obtain⟨U,V,W⟩:=C;have B:=Hm t;clear t;simp only[Val.cells];go_wp2;refine jU rfl Z.o rfl rfl ⟨by rw[n.o,B.o],eT f Ho _ _ _⟩
theorem Nz (a:List Zone)(kd A z:Int)(st nm:ByteArray)(w:World)(b off:Nat)(c:Nat)(l j:Int)(xs:ByteArray)(hx:In w (some ⟨b,off,none⟩) 1 c ([⟨l,j,xs⟩]:List Val))(Q:Option Addr)(n1 c1:Nat)(A3:Option Addr)(n3 c3:Nat)(I:Option Addr)(O c2:Nat)(hz:In w I O c2 a):
  Calls Tryz.prog 163 #[.agg #[.int .i64 20,.int .i64 kd,.int .i64 A,.string st,.string nm,.int .i64 z],.slice (some ⟨b,off,none⟩) 1 c,.slice Q n1 c1,.slice A3 n3 c3,.slice I O c2] w λe w'=>e=.returned (.agg (jl a ⟨20,⟨kd,A,st⟩,nm,z⟩ ([⟨l,j,xs⟩]:List Val)).cells.toArray)/\Below w.heap.size w w':=by
 obtain⟨hB,xV,ag⟩:=fu hx (show 0<1 by omega) (x:=⟨l,j,xs⟩) rfl;go_enter Tryz.func163,Tryz.ntmps163;go_upto_region 20 with (fail);obtain⟨P,N,Z,N0,N1,N2,N3,N4, -,d⟩:=jh w 20 kd A z st nm;rw[<-N];clear N;have ad:w.heap.size<P.heap.size:=Nat.lt_trans (show w.heap.size<w.heap.size+1 by omega) Z.o.lt;have f:b<P.heap.size:=by have:=d.size;omega
 have ae:¬b=w.heap.size+1:=by omega
 obtain⟨B,s,C⟩:=V3.b xV d hB;simp only[Nat.zero_mul,Nat.one_mul,Nat.add_zero,Nat.reduceMul]at B s C;obtain⟨z0,z1,z2,X,f1,Y,_⟩:=Z.o;go_wp2
 go_loop [11] (λi=> ∃k:Nat,k<=1/\i=.int .i64 k/\(0<k->¬l=0)) (λi=>1-(intOf i).toNat)
 case atStart=>exact⟨0,Ho,rfl,λh=>absurd h Ho⟩
 case round=>
  obtain⟨k,hk,rfl,G⟩:=hrel;obtain rfl|rfl:k=0\/k=1:=by omega
  ·clear G;by_cases n:l=0
   ·have E:Hl (jl a ⟨20,⟨kd,A,st⟩,nm,z⟩ ([⟨l,j,xs⟩]:List Val)=fP):=Hm (by simp only[jl,xR,Int.reduceEq,if_false];rw[if_pos n]);have q:(l==0)=true:=by simpa using n
    clear n;go_wp2;refine bodyPost_ret (v:=.agg (Val.cells fP).toArray) (fQ (cs:=Val.cells fP) rfl _ _ (w.heap.size+1) _ rfl (fM Z.o.c0 Z.o.c1 Z.o.c2) Tryz.underlying67 rfl (by kernel_rfl)) rfl ⟨by rw[E.o],eT d Ho _ _ _⟩
   ·have q:(l==0)=false:=by simpa using n
    go_wp2
    go_round
    case rel=>exact⟨1,Ho,by go_num,λ_=>n⟩
    case measure=>simp[intOf]
  ·have n:=G Ho;clear G;have E:Hl (jl a ⟨20,⟨kd,A,st⟩,nm,z⟩ ([⟨l,j,xs⟩]:List Val)=jb (qM (iw a nm) j).1 true):=Hm (by simp only[jl,xR,Int.reduceEq,if_false];rw[if_neg n];(try simp only[Int.reduceEq,if_false,if_true]));clear n;go_wp2_with fail;refine(qR _ _ _ _ a (hz.b d) nm).mono ?_;rintro e g ⟨⟨D,n4,c4,rfl,M,ab⟩,r⟩;have B:=eG r f B;have s:=eG r f s;have C:=eG r f C;have f:b<g.heap.size:=Nat.lt_of_lt_of_le f r.size;have Z:=Hm (Z.o.b r);have d:=eu d r;have af:=Z.o.lt;clear r;go_wp2;obtain⟨p,y⟩: ∃p,p=g.alloc (.cells #[.string (iw a nm).name,.int .i64 (iw a nm).offset,.slice D n4 c4] 155):=⟨_,rfl⟩;have F:p.cell? ⟨g.heap.size,0,none⟩=some (.string (iw a nm).name):=by rw[y];simp[go_sem]
   have J:p.cell? ⟨g.heap.size,1,none⟩=some (.int .i64 (iw a nm).offset):=by rw[y];simp[go_sem]
   have K:p.cell? ⟨g.heap.size,2,none⟩=some (.slice D n4 c4):=by rw[y];simp[go_sem]
   have m:Below g.heap.size g p:=by rw[y];exact eB
   rw[<-y];clear y;have B:=eG m f B;have s:=eG m f s;have C:=eG m f C;have f:b<p.heap.size:=Nat.lt_of_lt_of_le f m.size;have Z:=Hm (Z.o.b m);have aa:=M.b m;have d:=eu d m;have H:g.heap.size<p.heap.size:=lt_of_cell F;clear m M;go_region_held3 (λV=>V.cell? ⟨b,off+1,none⟩=some (.int .i64 j)/\V.cell? ⟨g.heap.size,0,none⟩=some (.string (iw a nm).name)/\V.cell? ⟨g.heap.size,1,none⟩=some (.int .i64 (iw a nm).offset)/\V.cell? ⟨g.heap.size,2,none⟩=some (.slice D n4 c4)) (first|exact⟨s,F,J,K⟩|exact⟨ac,T,U,W⟩) (first|(go_at_call 189;refine(Ke _ D n4 c4 (iw a nm) (aa.b (IJ).drew) ab j).mono ?_;rintro e w3 ⟨rfl,t⟩;have u:=eF t;have ac:=eG u f s;have T:=eG u H F;have U:=eG u H J;have W:=eG u H K;have Z:=Hm (Z.o.b u);have d:=eu d u;clear t));go_wp2_with fail;refine(nJ (qM (iw a nm) j).1 true _).mono ?_;rintro e w3 ⟨rfl,t⟩;have Z:=Hm (Z.o.b t);have d:=eu d t;clear t;obtain⟨z0,z1,z2,X,f1,Y,_⟩:=Z.o;generalize L:jb (qM (iw a nm) j).1 true=S;obtain⟨bk,bn,bs⟩:=S;have R:=Hm L;clear L;simp only[Val.cells];go_wp2;refine jU rfl Z.o rfl rfl ⟨by rw[E.o,R.o],eT d Ho _ _ _⟩
theorem MW (a:Int)(B:List Zone)(kd y t:Int)(st nm:ByteArray)(w:World)(b off:Nat)(c:Nat)(f l g m:Int)(xs n:ByteArray)(S:In w (some ⟨b,off,none⟩) 2 c ([⟨f,l,xs⟩,⟨g,m,n⟩]:List Val))(Q:4<=a/\a<=13)(ai:eX l)(aj:eX m)(af:xs.size<=64)(ag:n.size<=64)(A1:Option Addr)(n1 c1:Nat)(A3:Option Addr)(n3 c3:Nat)(L:Option Addr)(T c2:Nat)(hz:In w L T c2 B):
  Calls Tryz.prog 163 #[.agg #[.int .i64 a,.int .i64 kd,.int .i64 y,.string st,.string nm,.int .i64 t],.slice (some ⟨b,off,none⟩) 2 c,.slice A1 n1 c1,.slice A3 n3 c3,.slice L T c2] w λe w'=>e=.returned (.agg (jl B ⟨a,⟨kd,y,st⟩,nm,t⟩ ([⟨f,l,xs⟩,⟨g,m,n⟩]:List Val)).cells.toArray)/\Below w.heap.size w w':=by
 obtain⟨D,xV,au⟩:=fu S (show 0<2 by omega) (x:=⟨f,l,xs⟩) rfl;obtain⟨D,yV,av⟩:=fu S (show 1<2 by omega) (x:=⟨g,m,n⟩) rfl;have e0:(a==0)=false:=by simp;omega
 have e1:(a==1)=false:=by simp;omega
 have e2:(a==2)=false:=by simp;omega
 have e3:(a==3)=false:=by simp;omega
 have ak:(a==14)=false:=by simp;omega
 have al:(a==15)=false:=by simp;omega
 have am:(a==16)=false:=by simp;omega
 have an:(a==17)=false:=by simp;omega
 have ao:(a==18)=false:=by simp;omega
 have ap:(a==19)=false:=by simp;omega
 have aq:(a==20)=false:=by simp;omega
 have p:=Hm Q;clear Q;go_enter Tryz.func163,Tryz.ntmps163;go_upto_region 20 with (fail);obtain⟨U,R,Z,M,N1,N2,N3,N4, -,s⟩:=jh w a kd y t st nm;rw[<-R];clear R;have ae:w.heap.size<U.heap.size:=Nat.lt_trans (show w.heap.size<w.heap.size+1 by omega) Z.o.lt;have u:b<U.heap.size:=by have:=s.size;omega
 have d:¬b=w.heap.size+1:=by omega
 obtain⟨F,G,H⟩:=V3.b xV s D;obtain⟨I,J,K⟩:=V3.b yV s D;simp only[Nat.zero_mul,Nat.one_mul,Nat.add_zero,Nat.reduceMul]at F G H I J K;obtain⟨z0,z1,z2,f0,f1,f2,_⟩:=Z.o;have E:¬w.heap.size=w.heap.size+1:=by omega
 go_wp2
 go_loop [11] (λi=> ∃k:Nat,k<=2/\i=.int .i64 k/\(0<k->¬f=0)/\(1<k->¬g=0)) (λi=>2-(intOf i).toNat)
 case atStart=>exact⟨0,Ho,rfl,λh=>absurd h Ho,λh=>absurd h Ho⟩
 case round=>
  obtain⟨k,hk,rfl,A,C⟩:=hrel;obtain rfl|rfl|rfl:k=0\/k=1\/k=2:=by omega
  ·clear A C;by_cases j:f=0
   ·have z:Hl (jl B ⟨a,⟨kd,y,st⟩,nm,t⟩ ([⟨f,l,xs⟩,⟨g,m,n⟩]:List Val)=fP):=Hm (by simp only[jl];rw[if_neg (by have:=p.o;omega),if_neg (by have:=p.o;omega),if_neg (by have:=p.o;omega),if_pos (.inl j)]);have q:(f==0)=true:=by simpa using j
    clear j;go_wp2;refine bodyPost_ret (v:=.agg (Val.cells fP).toArray) (fQ (cs:=Val.cells fP) rfl _ _ (w.heap.size+1) _ rfl (fM Z.o.c0 Z.o.c1 Z.o.c2) Tryz.underlying67 rfl (by kernel_rfl)) rfl ⟨by rw[z.o],eT s Ho _ _ _⟩
   ·have q:(f==0)=false:=by simpa using j
    go_wp2
    go_round
    case rel=>exact⟨1,Ho,by go_num,λ_=>j,λh=>absurd h Ho⟩
    case measure=>simp[intOf]
  ·have ah:=Hm (A Ho);clear A C;by_cases j:g=0
   ·have z:Hl (jl B ⟨a,⟨kd,y,st⟩,nm,t⟩ ([⟨f,l,xs⟩,⟨g,m,n⟩]:List Val)=fP):=Hm (by simp only[jl];rw[if_neg (by have:=p.o;omega),if_neg (by have:=p.o;omega),if_neg (by have:=p.o;omega),if_pos (.inr j)]);have q:(g==0)=true:=by simpa using j
    clear j;go_wp2;refine bodyPost_ret (v:=.agg (Val.cells fP).toArray) (fQ (cs:=Val.cells fP) rfl _ _ (w.heap.size+1) _ rfl (fM Z.o.c0 Z.o.c1 Z.o.c2) Tryz.underlying67 rfl (by kernel_rfl)) rfl ⟨by rw[z.o],eT s Ho _ _ _⟩
   ·have q:(g==0)=false:=by simpa using j
    go_wp2
    go_round
    case rel=>exact⟨2,Ho,by go_num,λ_=>ah.o,λ_=>j⟩
    case measure=>simp[intOf]
  ·have z:Hl (jl B ⟨a,⟨kd,y,st⟩,nm,t⟩ ([⟨f,l,xs⟩,⟨g,m,n⟩]:List Val)=iW a ⟨f,l,xs⟩ ⟨g,m,n⟩):=Hm (by simp only[jl];rw[if_neg (by have:=p.o;omega),if_neg (by have:=p.o;omega),if_neg (by have:=p.o;omega),if_neg (by rintro(h|h);exact A Ho h;exact C Ho h)]);clear A C;go_upto_region 36 with (fail);go_region_held3 (λV=>V.cell? ⟨b,off,none⟩=some (.int .i64 f)/\V.cell? ⟨b,off+1,none⟩=some (.int .i64 l)/\V.cell? ⟨b,off+2,none⟩=some (.string xs)/\V.cell? ⟨b,off+3,none⟩=some (.int .i64 g)/\V.cell? ⟨b,off+3+1,none⟩=some (.int .i64 m)/\V.cell? ⟨b,off+3+2,none⟩=some (.string n)/\V.cell? ⟨w.heap.size,0,none⟩=some (.int .i64 a)) (first|exact⟨F,G,H,I,J,K,M⟩|exact⟨W,X,Y,aa,ab,ac,N⟩|exact⟨eD (eD (eD W (.inl d)) (.inl d)) (.inl d),eD (eD (eD X (.inl d)) (.inl d)) (.inl d),eD (eD (eD Y (.inl d)) (.inl d)) (.inl d),eD (eD (eD aa (.inl d)) (.inl d)) (.inl d),eD (eD (eD ab (.inl d)) (.inl d)) (.inl d),eD (eD (eD ac (.inl d)) (.inl d)) (.inl d),eD (eD (eD N (.inl E)) (.inl E)) (.inl E)⟩) (first|(go_at_call 190;refine(IA a p.o ⟨f,l,xs⟩ ⟨g,m,n⟩ ai aj af ag _).mono ?_;rintro e w1 ⟨rfl,O⟩;have r:=eF O;have W:=eG r u F;have X:=eG r u G;have Y:=eG r u H;have aa:=eG r u I;have ab:=eG r u J;have ac:=eG r u K;have N:=eG r ae M;have Z:=Hm (Z.o.b r);have s:=eu s r;clear O;obtain⟨z0,z1,z2,f0,f1,f2,_⟩:=Z.o;generalize P:iW a ⟨f,l,xs⟩ ⟨g,m,n⟩=bv;obtain⟨bk,bn,bs⟩:=bv;have ad:=Hm P;clear P;simp only[Val.cells]));go_wp2;refine jU rfl Z.o rfl rfl ⟨by rw[z.o,ad.o],eT s Ho _ _ _⟩
theorem NJ (kd p h:Int)(st nm:ByteArray)(w:World)(A:Option Addr)(m c:Nat)(g:Option Addr)(n c1:Nat)(cols:List Col)(i:In w g n c1 cols)(A3:Option Addr)(n3 c3:Nat)(row:List Val)(k:In w A3 n3 c3 row)(x:Value)(u:0<=index cols nm)(v:index cols nm<n3):
  Calls Tryz.prog 163 #[.agg #[.int .i64 1,.int .i64 kd,.int .i64 p,.string st,.string nm,.int .i64 h],.slice A m c,.slice g n c1,.slice A3 n3 c3,x] w λe w'=>e=.returned (.agg (row.getD (index cols nm).toNat fP).cells.toArray)/\Below w.heap.size w w':=by
 have M:=i.le;have N:=k.le;obtain⟨j,f⟩: ∃j:Nat,index cols nm=(j:Int):=⟨(index cols nm).toNat,Ho⟩;obtain⟨J,R,⟨B,C,D⟩,rfl,d,t,q,r,y,U⟩:=k.val (show j<n3 by omega);have s:Hl (row.getD (index cols nm).toNat fP=⟨B,C,D⟩):=Hm (by rw[f,Int.toNat_natCast,List.getD,(iI t.o).1];rfl);have P:(0:Int)<=(j:Int):=by omega
 have Q:(j:Int)<(n3:Int):=by omega
 go_enter Tryz.func163,Tryz.ntmps163;go_wp2_with fail;obtain⟨z,l,Z,E,F,G,H,I, -,a⟩:=jh w 1 kd p h st nm;rw[<-l];clear l;have O:w.heap.size<z.heap.size:=Nat.lt_trans (show w.heap.size<w.heap.size+1 by omega) Z.o.lt;refine(rq _ _ _ _ cols (i.b a) nm).mono ?_;rintro e T ⟨rfl,rfl⟩;rw[f];clear u v f;have q:=eG a d q;have r:=eG a d r;have S:=eG a d y;obtain⟨V,W,X,K,f1,L,_⟩:=Z.o;go_wp2;refine jU rfl Z.o rfl rfl ⟨by rw[s.o],eT a Ho _ _ _⟩
theorem uC (k:List Zone)(x:Node)(F:shaped x=true)(Q:x.ok)(B:x.op≠21)(m:Nat)(y:arity x.op x.arity=(m:Int))(w:World)(A:Option Addr)(c:Nat)(xs:List Val)(g:In w A m c xs)(C: ∀v∈xs,valid v=true)(f:Option Addr)(h c1:Nat)(cols:List Col)(M:In w f h c1 cols)(A3:Option Addr)(n3 c3:Nat)(row:List Val)(N:In w A3 n3 c3 row)(hi:x.op=1->0<=index cols x.name/\index cols x.name<n3)(i:Option Addr)(j c2:Nat)(o:In w i j c2 k):
  Calls Tryz.prog 163 #[.agg x.cells.toArray,.slice A m c,.slice f h c1,.slice A3 n3 c3,.slice i j c2] w λe w'=>e=.returned (.agg (lG cols row k x xs).cells.toArray)/\Below w.heap.size w w':=by
 have E:=λu=>pM F u B;obtain⟨p,⟨kd,n,st⟩,nm,l⟩:=x;simp only at y E hi B;clear F;by_cases u:p=1
 ·subst u;exact NJ kd n l st nm w A m c f h c1 cols M A3 n3 c3 row N _ (hi rfl).1 (hi rfl).2
 simp only[lG];rw[if_neg u];rcases E u with rfl|⟨R,P⟩
 ·have e:m=0:=by simp[arity]at y;omega
  subst e;obtain rfl:=g.len0;exact NI k kd n l st nm w A c f h c1 A3 n3 c3 i j c2 o
 by_cases O:p=2\/p=3\/p=16\/p=19\/p=20
 ·have e:m=1:=by rw[arity,if_neg Ho,if_pos Ho]at y;omega
  subst e;obtain⟨⟨a,d,xs⟩,b,off,rfl,rfl⟩:=g.len1;have z:=C ⟨a,d,xs⟩ II;rcases O with rfl|rfl|rfl|rfl|rfl
  ·exact NK k kd n l st nm w b off c a d xs g f h c1 A3 n3 c3 i j c2 o
  ·exact NL k kd n l st nm w b off c a d xs g (pR z) f h c1 A3 n3 c3 i j c2 o
  ·exact Nw k kd n l st nm w b off c a d xs g f h c1 A3 n3 c3 i j c2 o
  ·exact Ny k kd n l st nm w b off c a d xs g f h c1 A3 n3 c3 i j c2 o
  ·exact Nz k kd n l st nm w b off c a d xs g f h c1 A3 n3 c3 i j c2 o
 by_cases D:p=17
 ·subst D;have e:m=3:=by simp[arity]at y;omega
  subst e;obtain⟨⟨a,d,xs⟩,⟨r,s,t⟩,⟨H,I,zs⟩,b,off,rfl,rfl⟩:=g.len3;cases q:(truth ⟨a,d,xs⟩==1)
  ·exact MU k kd n l st nm w b off c a d r s H I xs t zs g q f h c1 A3 n3 c3 i j c2 o
  ·exact MV k kd n l st nm w b off c a d r s H I xs t zs g q f h c1 A3 n3 c3 i j c2 o
 have e:m=2:=by rw[arity,if_neg Ho,if_neg Ho,if_neg D,if_neg B,if_pos Ho]at y;omega
 subst e;obtain⟨⟨a,d,xs⟩,⟨r,s,t⟩,b,off,rfl,rfl⟩:=g.len2;have z:=C ⟨a,d,xs⟩ II;have G:=C ⟨r,s,t⟩ II;by_cases J:p=14
 ·subst J;exact Nu k kd n l st nm w b off c a d r s xs t g f h c1 A3 n3 c3 i j c2 o
 by_cases K:p=15
 ·subst K;exact Nv k kd n l st nm w b off c a d r s xs t g f h c1 A3 n3 c3 i j c2 o
 by_cases L:p=18
 ·subst L;cases q:(a==0)
  ·exact Lx k kd n l st nm w b off c a d r s xs t g f h c1 A3 n3 c3 i j c2 o
  ·exact Lx k kd n l st nm w b off c a d r s xs t g f h c1 A3 n3 c3 i j c2 o
 exact MW p k kd n l st nm w b off c a d r s xs t g Ho (pR z) (pR G) (pU z) (pU G) f h c1 A3 n3 c3 i j c2 o
end Go.Proofs.YthnelebakkggjaaGreatDoor
