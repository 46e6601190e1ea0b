/-
  scalar.apply: with its operands it returns opV. (Printed by gen_app.py.) scalar.special and apply at any node; slices.Contains over values: is there a null? Plain law: what a map from the columns' names to a row's values holds; nodes of which an operand is null. No program is in sight.
-/
import Derived.Test.YthnelebakkggjaaGreatDoorAppA
namespace Go.Proofs.YthnelebakkggjaaGreatDoor
set_option maxHeartbeats 2000000
set_option maxRecDepth 100000
open Go.RowKit
set_option linter.unusedSimpArgs false
set_option linter.unusedVariables false
theorem NF (k:List Zone)(kd h g:Int)(st nm:ByteArray)(w:World)(b off:Nat)(c:Nat)(a d:Int)(xs:ByteArray)(A:In w (some ⟨b,off,none⟩) 1 c ([⟨a,d,xs⟩]:List Val))(p:¬a=0)(n:a=1)(q:valid ⟨a,d,xs⟩=true)(l:Option Addr)(s c2:Nat)(T:In w l s c2 k):
  Calls Tryz.prog 131 #[.agg #[.int .i64 2,.int .i64 kd,.int .i64 h,.string st,.string nm,.int .i64 g],.slice (some ⟨b,off,none⟩) 1 c,.slice l s c2] w λe w'=>e=.returned (.agg (jl k ⟨2,⟨kd,h,st⟩,nm,g⟩ ([⟨a,d,xs⟩]:List Val)).cells.toArray)/\Below w.heap.size w w':=by
 have v:Hl (jl k ⟨2,⟨kd,h,st⟩,nm,g⟩ ([⟨a,d,xs⟩]:List Val)=iM (truth ⟨a,d,xs⟩==0)):=Hm (by simp only[jl,xR,Int.reduceEq,if_false];rw[if_neg p];(try simp only[Int.reduceEq,if_false,if_true]);rw[D7 q,if_pos n]);obtain⟨z,E,F⟩:=fu A (show 0<1 by omega) (x:=⟨a,d,xs⟩) rfl;clear p n q;go_enter Tryz.func131,Tryz.ntmps131;go_upto_region 3 with (fail);obtain⟨t,r,Z,G,H,I,J,K, -,f⟩:=jh w 2 kd h g st nm;rw[<-r];clear r;have R:w.heap.size<t.heap.size:=Nat.lt_trans (show w.heap.size<w.heap.size+1 by omega) Z.o.lt;have Q:b<t.heap.size:=by have:=f.size;omega
 have S:¬b=w.heap.size+1:=by omega
 obtain⟨B,C,D⟩:=V3.b E f z;simp only[Nat.zero_mul,Nat.one_mul,Nat.add_zero,Nat.reduceMul]at B C D;go_wp2_with fail;refine(rC ⟨a,d,xs⟩ F _).mono ?_;rintro e U ⟨rfl,i⟩;have Z:=Hm (Z.o.b i);have f:=eu f i;clear i;go_wp2_with fail;refine(mV (truth ⟨a,d,xs⟩==0) _).mono ?_;rintro e V ⟨rfl,j⟩;have Z:=Hm (Z.o.b j);have f:=eu f j;clear j;obtain⟨W,X,Y,O,f1,P,_⟩:=Z.o;generalize m:iM (truth ⟨a,d,xs⟩==0)=y;obtain⟨L,M,N⟩:=y;have u:=Hm m;clear m;simp only[Val.cells];go_wp2;refine jU rfl Z.o rfl rfl ⟨by rw[v.o,u.o],eT f Ho _ _ _⟩
theorem NG (k:List Zone)(kd h g:Int)(st nm:ByteArray)(w:World)(b off:Nat)(c:Nat)(f a:Int)(xs:ByteArray)(v:In w (some ⟨b,off,none⟩) 1 c ([⟨f,a,xs⟩]:List Val))(j:¬f=0)(y:eX a)(l:Option Addr)(p c2:Nat)(R:In w l p c2 k):
  Calls Tryz.prog 131 #[.agg #[.int .i64 3,.int .i64 kd,.int .i64 h,.string st,.string nm,.int .i64 g],.slice (some ⟨b,off,none⟩) 1 c,.slice l p c2] w λe w'=>e=.returned (.agg (jl k ⟨3,⟨kd,h,st⟩,nm,g⟩ ([⟨f,a,xs⟩]:List Val)).cells.toArray)/\Below w.heap.size w w':=by
 have s:Hl (jl k ⟨3,⟨kd,h,st⟩,nm,g⟩ ([⟨f,a,xs⟩]:List Val)=jb (kR 0 a).1 (kR 0 a).2):=Hm (by simp only[jl,xR,Int.reduceEq,if_false];rw[if_neg j];(try simp only[Int.reduceEq,if_false,if_true]));obtain⟨u,C,T⟩:=fu v (show 0<1 by omega) (x:=⟨f,a,xs⟩) rfl;have D:=Hm j;clear j;go_enter Tryz.func131,Tryz.ntmps131;go_upto_region 5 with (fail);obtain⟨q,n,Z,E,F,G,H,I, -,d⟩:=jh w 3 kd h g st nm;rw[<-n];clear n;have P:w.heap.size<q.heap.size:=Nat.lt_trans (show w.heap.size<w.heap.size+1 by omega) Z.o.lt;have O:b<q.heap.size:=by have:=d.size;omega
 have Q:¬b=w.heap.size+1:=by omega
 obtain⟨z,A,B⟩:=V3.b C d u;simp only[Nat.zero_mul,Nat.one_mul,Nat.add_zero,Nat.reduceMul]at z A B;go_wp2_with fail;refine(Cg 0 a (by unfold eX;omega) y _).mono ?_;rintro e w' ⟨rfl,rfl⟩;go_wp2_with fail;refine(nI _ _ _).mono ?_;rintro e S ⟨rfl,i⟩;have Z:=Hm (Z.o.b i);have d:=eu d i;clear i;obtain⟨U,V,W,M,f1,N,_⟩:=Z.o;generalize m:jb (kR 0 a).1 (kR 0 a).2=t;obtain⟨J,K,L⟩:=t;have r:=Hm m;clear m;simp only[Val.cells];go_wp2;refine jU rfl Z.o rfl rfl ⟨by rw[s.o,r.o],eT d Ho _ _ _⟩
theorem M9 (r:List Zone)(kd j g:Int)(st nm:ByteArray)(w:World)(b off:Nat)(c:Nat)(d k f l:Int)(xs a:ByteArray)(A:In w (some ⟨b,off,none⟩) 2 c ([⟨d,k,xs⟩,⟨f,l,a⟩]:List Val))(p:¬d=0)(q:¬f=0)(ad:xs.size<=64)(ae:a.size<=64)(u:64<(xs++a).size)(s:Option Addr)(B c2:Nat)(hz:In w s B c2 r):
  Calls Tryz.prog 131 #[.agg #[.int .i64 9,.int .i64 kd,.int .i64 j,.string st,.string nm,.int .i64 g],.slice (some ⟨b,off,none⟩) 2 c,.slice s B c2] w λe w'=>e=.returned (.agg (jl r ⟨9,⟨kd,j,st⟩,nm,g⟩ ([⟨d,k,xs⟩,⟨f,l,a⟩]:List Val)).cells.toArray)/\Below w.heap.size w w':=by
 have D:Hl (jl r ⟨9,⟨kd,j,st⟩,nm,g⟩ ([⟨d,k,xs⟩,⟨f,l,a⟩]:List Val)=fP):=Hm (by simp only[jl,Int.reduceEq,if_false];rw[if_neg (by rintro(h|h);exact p h;exact q h)];simp only[iW,gQ,Int.reduceEq,or_self,or_false,false_or,or_true,true_or,if_false,if_true];rw[if_pos u]);obtain⟨m,L,af⟩:=fu A (show 0<2 by omega) (x:=⟨d,k,xs⟩) rfl;obtain⟨m,Q,ag⟩:=fu A (show 1<2 by omega) (x:=⟨f,l,a⟩) rfl;have S:=Hm p;clear p;have T:=Hm q;clear q;go_enter Tryz.func131,Tryz.ntmps131;go_wp2;obtain⟨C,z,Z,U,W,X,Y,N4, -,i⟩:=jh w 9 kd j g st nm;rw[<-z];clear z;have ab:w.heap.size<C.heap.size:=Nat.lt_trans (show w.heap.size<w.heap.size+1 by omega) Z.o.lt;have aa:b<C.heap.size:=by have:=i.size;omega
 have ac:¬b=w.heap.size+1:=by omega
 obtain⟨I,J,K⟩:=V3.b L i m;obtain⟨M,N,O⟩:=V3.b Q i m;simp only[Nat.zero_mul,Nat.one_mul,Nat.add_zero,Nat.reduceMul]at I J K M N O;have H:xs.size+a.size=(xs++a).size:=by rw[ByteArray.size_append]
 have y:xs.size+a.size<=9223372036854775807:=by omega
 have F:(xs++a).size<=9223372036854775807:=by omega
 have E:=λV=>run_string_add_sum (P:=Tryz.prog) (w:=V) xs a y;have G:¬((xs++a).size:Int)<=64:=by omega
 go_quiet (fail);have Z:=Hm (Z.o.drewN nq);obtain⟨t,n⟩: ∃t,t=xs++a:=⟨_,rfl⟩;rw[<-n]at F G⊢;have R:=Hm n;clear E y H n u;obtain⟨z0,z1,z2,f0,f1,f2,_⟩:=Z.o;go_wp2;refine bodyPost_ret (v:=.agg (Val.cells fP).toArray) (fQ (cs:=Val.cells fP) rfl _ _ (w.heap.size+1) _ rfl (fM Z.o.c0 Z.o.c1 Z.o.c2) Tryz.underlying67 rfl (by kernel_rfl)) rfl ⟨by rw[D.o],eT (below_drewN i _) Ho _ _ _⟩
theorem M8 (r:List Zone)(kd j g:Int)(st nm:ByteArray)(w:World)(b off:Nat)(c:Nat)(d k f l:Int)(xs a:ByteArray)(z:In w (some ⟨b,off,none⟩) 2 c ([⟨d,k,xs⟩,⟨f,l,a⟩]:List Val))(p:¬d=0)(q:¬f=0)(ad:xs.size<=64)(ae:a.size<=64)(u:¬64<(xs++a).size)(s:Option Addr)(A c2:Nat)(hz:In w s A c2 r):
  Calls Tryz.prog 131 #[.agg #[.int .i64 9,.int .i64 kd,.int .i64 j,.string st,.string nm,.int .i64 g],.slice (some ⟨b,off,none⟩) 2 c,.slice s A c2] w λe w'=>e=.returned (.agg (jl r ⟨9,⟨kd,j,st⟩,nm,g⟩ ([⟨d,k,xs⟩,⟨f,l,a⟩]:List Val)).cells.toArray)/\Below w.heap.size w w':=by
 have D:Hl (jl r ⟨9,⟨kd,j,st⟩,nm,g⟩ ([⟨d,k,xs⟩,⟨f,l,a⟩]:List Val)=⟨3,0,xs++a⟩):=Hm (by simp only[jl,Int.reduceEq,if_false];rw[if_neg (by rintro(h|h);exact p h;exact q h)];simp only[iW,gQ,Int.reduceEq,or_self,or_false,false_or,or_true,true_or,if_false,if_true];rw[if_neg u]);obtain⟨m,L,af⟩:=fu z (show 0<2 by omega) (x:=⟨d,k,xs⟩) rfl;obtain⟨m,Q,ag⟩:=fu z (show 1<2 by omega) (x:=⟨f,l,a⟩) rfl;have R:=Hm p;clear p;have S:=Hm q;clear q;go_enter Tryz.func131,Tryz.ntmps131;go_wp2;obtain⟨B,y,Z,T,U,W,X,Y, -,i⟩:=jh w 9 kd j g st nm;rw[<-y];clear y;have ab:w.heap.size<B.heap.size:=Nat.lt_trans (show w.heap.size<w.heap.size+1 by omega) Z.o.lt;have aa:b<B.heap.size:=by have:=i.size;omega
 have ac:¬b=w.heap.size+1:=by omega
 obtain⟨I,J,K⟩:=V3.b L i m;obtain⟨M,N,O⟩:=V3.b Q i m;simp only[Nat.zero_mul,Nat.one_mul,Nat.add_zero,Nat.reduceMul]at I J K M N O;have H:xs.size+a.size=(xs++a).size:=by rw[ByteArray.size_append]
 have v:xs.size+a.size<=9223372036854775807:=by omega
 have F:(xs++a).size<=9223372036854775807:=by omega
 have E:=λV=>run_string_add_sum (P:=Tryz.prog) (w:=V) xs a v;have G:((xs++a).size:Int)<=64:=by omega
 go_quiet (fail);have Z:=Hm (Z.o.drewN nq);obtain⟨t,n⟩: ∃t,t=xs++a:=⟨_,rfl⟩;rw[<-n]at F G⊢;have C:=Hm n;clear E v H n u;obtain⟨z0,z1,z2,f0,f1,f2,_⟩:=Z.o;go_wp2;refine jU rfl Z.o rfl rfl ⟨by rw[D.o,C.o],eT (below_drewN i _) Ho _ _ _⟩
theorem xh (n:Int)(q r:Bool)(M:n=10/\r=q\/n=11/\r=!q)(G:List Zone)(kd s p:Int)(st nm:ByteArray)(w:World)(b off:Nat)(c:Nat)(d g f i:Int)(xs j:ByteArray)(O:In w (some ⟨b,off,none⟩) 2 c ([⟨d,g,xs⟩,⟨f,i,j⟩]:List Val))(y:¬d=0)(z:¬f=0)(v:(fV ⟨d,g,xs⟩ ⟨f,i,j⟩==0)=q/\(fV ⟨d,g,xs⟩ ⟨f,i,j⟩ != 0)=!q)(hd:(d==f)=false/\q=false\/(d==f)=true/\(g==i)=false/\q=false\/(d==f)=true/\(g==i)=true/\(xs.toList==j.toList)=false/\q=false\/(d==f)=true/\(g==i)=true/\(xs.toList==j.toList)=true/\q=true)(H:Option Addr)(P c2:Nat)(hz:In w H P c2 G):
  Calls Tryz.prog 131 #[.agg #[.int .i64 n,.int .i64 kd,.int .i64 s,.string st,.string nm,.int .i64 p],.slice (some ⟨b,off,none⟩) 2 c,.slice H P c2] w λe w'=>e=.returned (.agg (jl G ⟨n,⟨kd,s,st⟩,nm,p⟩ ([⟨d,g,xs⟩,⟨f,i,j⟩]:List Val)).cells.toArray)/\Below w.heap.size w w':=by
 have I:Hl (jl G ⟨n,⟨kd,s,st⟩,nm,p⟩ ([⟨d,g,xs⟩,⟨f,i,j⟩]:List Val)=iM r):=Hm (by rcases M with ⟨rfl,rfl⟩|⟨rfl,rfl⟩<;>(simp only[jl,Int.reduceEq,if_false];rw[if_neg (by rintro(h|h);exact y h;exact z h)];simp only[iW,gQ,Int.reduceEq,or_self,or_false,false_or,or_true,true_or,if_false,if_true];first|rw[v.1]|rw[v.2]));rcases M with ⟨rfl,rfl⟩|⟨rfl,rfl⟩<;>rcases hd with ⟨t,rfl⟩|⟨t,J,rfl⟩|⟨t,J,d2,rfl⟩|⟨t,J,d2,rfl⟩
 all_goals
  (try simp only[Bool.not_false,Bool.not_true]at I);obtain⟨u,xV,ad⟩:=fu O (show 0<2 by omega) (x:=⟨d,g,xs⟩) rfl;obtain⟨u,yV,ae⟩:=fu O (show 1<2 by omega) (x:=⟨f,i,j⟩) rfl;have aa:=Hm y;clear y;have ab:=Hm z;clear z;clear v;go_enter Tryz.func131,Tryz.ntmps131;go_wp2;obtain⟨Q,N,Z,N0,N1,N2,N3,N4, -,m⟩:=jh w _ kd s p st nm;rw[<-N];clear N;have ac:w.heap.size<Q.heap.size:=Nat.lt_trans (show w.heap.size<w.heap.size+1 by omega) Z.o.lt;have l:b<Q.heap.size:=by have:=m.size;omega
  have a:¬b=w.heap.size+1:=by omega
  obtain⟨A,B,C⟩:=V3.b xV m u;obtain⟨D,E,F⟩:=V3.b yV m u;simp only[Nat.zero_mul,Nat.one_mul,Nat.add_zero,Nat.reduceMul]at A B C D E F;go_region_held3 (λV=>V.cell? ⟨b,off,none⟩=some (.int .i64 d)/\V.cell? ⟨b,off+1,none⟩=some (.int .i64 g)/\V.cell? ⟨b,off+2,none⟩=some (.string xs)/\V.cell? ⟨b,off+3,none⟩=some (.int .i64 f)/\V.cell? ⟨b,off+3+1,none⟩=some (.int .i64 i)/\V.cell? ⟨b,off+3+2,none⟩=some (.string j)) (first|exact⟨A,B,C,D,E,F⟩|exact⟨R,S,T,U,W,X⟩|exact⟨eD (eD (eD R (.inl a)) (.inl a)) (.inl a),eD (eD (eD S (.inl a)) (.inl a)) (.inl a),eD (eD (eD T (.inl a)) (.inl a)) (.inl a),eD (eD (eD U (.inl a)) (.inl a)) (.inl a),eD (eD (eD W (.inl a)) (.inl a)) (.inl a),eD (eD (eD X (.inl a)) (.inl a)) (.inl a)⟩) (first|(go_at_call 149;(first|refine(mV false _).mono ?_|refine(mV true _).mono ?_);rintro e w1 ⟨rfl,K⟩;have k:=eF K;have R:=eG k l A;have S:=eG k l B;have T:=eG k l C;have U:=eG k l D;have W:=eG k l E;have X:=eG k l F;have Z:=Hm (Z.o.b k);have m:=eu m k;clear K;obtain⟨z0,z1,z2,f0,f1,f2,_⟩:=Z.o;generalize L:iM _=bv;obtain⟨bk,bn,bs⟩:=bv;have Y:=Hm L;clear L;simp only[Val.cells]));go_wp2;refine jU rfl Z.o rfl rfl ⟨by rw[I.o,Y.o],eT m Ho _ _ _⟩
theorem M4 (J:List Zone)(kd r q:Int)(st nm:ByteArray)(w:World)(b off:Nat)(c:Nat)(g k i l:Int)(xs m:ByteArray)(Q:In w (some ⟨b,off,none⟩) 2 c ([⟨g,k,xs⟩,⟨i,l,m⟩]:List Val))(B:¬g=0)(C:¬i=0)(K:Option Addr)(R c2:Nat)(hz:In w K R c2 J):
  Calls Tryz.prog 131 #[.agg #[.int .i64 12,.int .i64 kd,.int .i64 r,.string st,.string nm,.int .i64 q],.slice (some ⟨b,off,none⟩) 2 c,.slice K R c2] w λe w'=>e=.returned (.agg (jl J ⟨12,⟨kd,r,st⟩,nm,q⟩ ([⟨g,k,xs⟩,⟨i,l,m⟩]:List Val)).cells.toArray)/\Below w.heap.size w w':=by
 have W:Hl (jl J ⟨12,⟨kd,r,st⟩,nm,q⟩ ([⟨g,k,xs⟩,⟨i,l,m⟩]:List Val)=iM (decide (fV ⟨g,k,xs⟩ ⟨i,l,m⟩<0))):=Hm (by simp only[jl,Int.reduceEq,if_false];rw[if_neg (by rintro(h|h);exact B h;exact C h)];simp only[iW,gQ,Int.reduceEq,or_self,or_false,false_or,or_true,true_or,if_false,if_true]);obtain⟨A,xV,ad⟩:=fu Q (show 0<2 by omega) (x:=⟨g,k,xs⟩) rfl;obtain⟨A,yV,ae⟩:=fu Q (show 1<2 by omega) (x:=⟨i,l,m⟩) rfl;have aa:=Hm B;clear B;have ab:=Hm C;clear C;go_enter Tryz.func131,Tryz.ntmps131;go_wp2;obtain⟨S,P,Z,N0,N1,N2,N3,N4, -,j⟩:=jh w 12 kd r q st nm;rw[<-P];clear P;have ac:w.heap.size<S.heap.size:=Nat.lt_trans (show w.heap.size<w.heap.size+1 by omega) Z.o.lt;have n:b<S.heap.size:=by have:=j.size;omega
 have a:¬b=w.heap.size+1:=by omega
 obtain⟨D,E,F⟩:=V3.b xV j A;obtain⟨G,H,I⟩:=V3.b yV j A;simp only[Nat.zero_mul,Nat.one_mul,Nat.add_zero,Nat.reduceMul]at D E F G H I;go_region_held3 (λV=>V.cell? ⟨b,off,none⟩=some (.int .i64 g)/\V.cell? ⟨b,off+1,none⟩=some (.int .i64 k)/\V.cell? ⟨b,off+2,none⟩=some (.string xs)/\V.cell? ⟨b,off+3,none⟩=some (.int .i64 i)/\V.cell? ⟨b,off+3+1,none⟩=some (.int .i64 l)/\V.cell? ⟨b,off+3+2,none⟩=some (.string m)) (first|exact⟨D,E,F,G,H,I⟩|exact⟨s,t,u,v,y,z⟩|exact⟨eD (eD (eD s (.inl a)) (.inl a)) (.inl a),eD (eD (eD t (.inl a)) (.inl a)) (.inl a),eD (eD (eD u (.inl a)) (.inl a)) (.inl a),eD (eD (eD v (.inl a)) (.inl a)) (.inl a),eD (eD (eD y (.inl a)) (.inl a)) (.inl a),eD (eD (eD z (.inl a)) (.inl a)) (.inl a)⟩) (first|(go_at_call 85;refine(BC ⟨g,k,xs⟩ ⟨i,l,m⟩ _).mono ?_;rintro e Y ⟨rfl,M⟩;have f:=eF M;have s:=eG f n D;have t:=eG f n E;have u:=eG f n F;have v:=eG f n G;have y:=eG f n H;have z:=eG f n I;have Z:=Hm (Z.o.b f);have j:=eu j f;clear M;have p:b<Y.heap.size:=Nat.lt_of_lt_of_le n f.size;generalize O:fV ⟨g,k,xs⟩ ⟨i,l,m⟩=L;have U:=Hm O;clear O)|(go_at_call 149;refine(mV (decide (L<0)) _).mono ?_;rintro e w2 ⟨rfl,d⟩;have s:=eG d p s;have t:=eG d p t;have u:=eG d p u;have v:=eG d p v;have y:=eG d p y;have z:=eG d p z;have Z:=Hm (Z.o.b d);have j:=eu j d;clear d;obtain⟨z0,z1,z2,f0,f1,f2,_⟩:=Z.o;generalize N:iM (decide (L<0))=X;obtain⟨bk,bn,bs⟩:=X;have T:=Hm N;clear N;simp only[Val.cells]));go_wp2;refine jU rfl Z.o rfl rfl ⟨by rw[W.o,U.o,T.o],eT j Ho _ _ _⟩
theorem M5 (J:List Zone)(kd r q:Int)(st nm:ByteArray)(w:World)(b off:Nat)(c:Nat)(g k i l:Int)(xs m:ByteArray)(Q:In w (some ⟨b,off,none⟩) 2 c ([⟨g,k,xs⟩,⟨i,l,m⟩]:List Val))(B:¬g=0)(C:¬i=0)(K:Option Addr)(R c2:Nat)(hz:In w K R c2 J):
  Calls Tryz.prog 131 #[.agg #[.int .i64 13,.int .i64 kd,.int .i64 r,.string st,.string nm,.int .i64 q],.slice (some ⟨b,off,none⟩) 2 c,.slice K R c2] w λe w'=>e=.returned (.agg (jl J ⟨13,⟨kd,r,st⟩,nm,q⟩ ([⟨g,k,xs⟩,⟨i,l,m⟩]:List Val)).cells.toArray)/\Below w.heap.size w w':=by
 have W:Hl (jl J ⟨13,⟨kd,r,st⟩,nm,q⟩ ([⟨g,k,xs⟩,⟨i,l,m⟩]:List Val)=iM (decide (fV ⟨g,k,xs⟩ ⟨i,l,m⟩<=0))):=Hm (by simp only[jl,Int.reduceEq,if_false];rw[if_neg (by rintro(h|h);exact B h;exact C h)];simp only[iW,gQ,Int.reduceEq,or_self,or_false,false_or,or_true,true_or,if_false,if_true]);obtain⟨A,xV,ad⟩:=fu Q (show 0<2 by omega) (x:=⟨g,k,xs⟩) rfl;obtain⟨A,yV,ae⟩:=fu Q (show 1<2 by omega) (x:=⟨i,l,m⟩) rfl;have aa:=Hm B;clear B;have ab:=Hm C;clear C;go_enter Tryz.func131,Tryz.ntmps131;go_wp2;obtain⟨S,P,Z,N0,N1,N2,N3,N4, -,j⟩:=jh w 13 kd r q st nm;rw[<-P];clear P;have ac:w.heap.size<S.heap.size:=Nat.lt_trans (show w.heap.size<w.heap.size+1 by omega) Z.o.lt;have n:b<S.heap.size:=by have:=j.size;omega
 have a:¬b=w.heap.size+1:=by omega
 obtain⟨D,E,F⟩:=V3.b xV j A;obtain⟨G,H,I⟩:=V3.b yV j A;simp only[Nat.zero_mul,Nat.one_mul,Nat.add_zero,Nat.reduceMul]at D E F G H I;go_region_held3 (λV=>V.cell? ⟨b,off,none⟩=some (.int .i64 g)/\V.cell? ⟨b,off+1,none⟩=some (.int .i64 k)/\V.cell? ⟨b,off+2,none⟩=some (.string xs)/\V.cell? ⟨b,off+3,none⟩=some (.int .i64 i)/\V.cell? ⟨b,off+3+1,none⟩=some (.int .i64 l)/\V.cell? ⟨b,off+3+2,none⟩=some (.string m)) (first|exact⟨D,E,F,G,H,I⟩|exact⟨s,t,u,v,y,z⟩|exact⟨eD (eD (eD s (.inl a)) (.inl a)) (.inl a),eD (eD (eD t (.inl a)) (.inl a)) (.inl a),eD (eD (eD u (.inl a)) (.inl a)) (.inl a),eD (eD (eD v (.inl a)) (.inl a)) (.inl a),eD (eD (eD y (.inl a)) (.inl a)) (.inl a),eD (eD (eD z (.inl a)) (.inl a)) (.inl a)⟩) (first|(go_at_call 85;refine(BC ⟨g,k,xs⟩ ⟨i,l,m⟩ _).mono ?_;rintro e Y ⟨rfl,M⟩;have f:=eF M;have s:=eG f n D;have t:=eG f n E;have u:=eG f n F;have v:=eG f n G;have y:=eG f n H;have z:=eG f n I;have Z:=Hm (Z.o.b f);have j:=eu j f;clear M;have p:b<Y.heap.size:=Nat.lt_of_lt_of_le n f.size;generalize O:fV ⟨g,k,xs⟩ ⟨i,l,m⟩=L;have U:=Hm O;clear O)|(go_at_call 149;refine(mV (decide (L<=0)) _).mono ?_;rintro e w2 ⟨rfl,d⟩;have s:=eG d p s;have t:=eG d p t;have u:=eG d p u;have v:=eG d p v;have y:=eG d p y;have z:=eG d p z;have Z:=Hm (Z.o.b d);have j:=eu j d;clear d;obtain⟨z0,z1,z2,f0,f1,f2,_⟩:=Z.o;generalize N:iM (decide (L<=0))=X;obtain⟨bk,bn,bs⟩:=X;have T:=Hm N;clear N;simp only[Val.cells]));go_wp2;refine jU rfl Z.o rfl rfl ⟨by rw[W.o,U.o,T.o],eT j Ho _ _ _⟩
theorem M6 (k:List Zone)(kd g f:Int)(st nm:ByteArray)(w:World)(b off:Nat)(c:Nat)(d h:Int)(xs:ByteArray)(v:In w (some ⟨b,off,none⟩) 1 c ([⟨d,h,xs⟩]:List Val))(j:¬d=0)(l:Option Addr)(p c2:Nat)(Q:In w l p c2 k):
  Calls Tryz.prog 131 #[.agg #[.int .i64 19,.int .i64 kd,.int .i64 g,.string st,.string nm,.int .i64 f],.slice (some ⟨b,off,none⟩) 1 c,.slice l p c2] w λe w'=>e=.returned (.agg (jl k ⟨19,⟨kd,g,st⟩,nm,f⟩ ([⟨d,h,xs⟩]:List Val)).cells.toArray)/\Below w.heap.size w w':=by
 have s:Hl (jl k ⟨19,⟨kd,g,st⟩,nm,f⟩ ([⟨d,h,xs⟩]:List Val)=jb xs.size true):=Hm (by simp only[jl,xR,Int.reduceEq,if_false];rw[if_neg j];(try simp only[Int.reduceEq,if_false,if_true]));obtain⟨u,B,S⟩:=fu v (show 0<1 by omega) (x:=⟨d,h,xs⟩) rfl;have C:=Hm j;clear j;go_enter Tryz.func131,Tryz.ntmps131;go_upto_region 20 with (fail);obtain⟨q,n,Z,D,E,F,G,H, -,a⟩:=jh w 19 kd g f st nm;rw[<-n];clear n;have O:w.heap.size<q.heap.size:=Nat.lt_trans (show w.heap.size<w.heap.size+1 by omega) Z.o.lt;have N:b<q.heap.size:=by have:=a.size;omega
 have P:¬b=w.heap.size+1:=by omega
 obtain⟨y,z,A⟩:=V3.b B a u;simp only[Nat.zero_mul,Nat.one_mul,Nat.add_zero,Nat.reduceMul]at y z A;go_wp2_with fail;refine(nI xs.size true _).mono ?_;rintro e R ⟨rfl,i⟩;have Z:=Hm (Z.o.b i);have a:=eu a i;clear i;obtain⟨T,U,V,L,f1,M,_⟩:=Z.o;generalize m:jb xs.size true=t;obtain⟨I,J,K⟩:=t;have r:=Hm m;clear m;simp only[Val.cells];go_wp2;refine jU rfl Z.o rfl rfl ⟨by rw[s.o,r.o],eT a Ho _ _ _⟩
theorem M7 (a:List Zone)(kd u t:Int)(st nm:ByteArray)(w:World)(b off:Nat)(c:Nat)(s h:Int)(xs:ByteArray)(R:In w (some ⟨b,off,none⟩) 1 c ([⟨s,h,xs⟩]:List Val))(y:¬s=0)(A:Option Addr)(G c2:Nat)(S:In w A G c2 a):
  Calls Tryz.prog 131 #[.agg #[.int .i64 20,.int .i64 kd,.int .i64 u,.string st,.string nm,.int .i64 t],.slice (some ⟨b,off,none⟩) 1 c,.slice A G c2] w λe w'=>e=.returned (.agg (jl a ⟨20,⟨kd,u,st⟩,nm,t⟩ ([⟨s,h,xs⟩]:List Val)).cells.toArray)/\Below w.heap.size w w':=by
 have J:Hl (jl a ⟨20,⟨kd,u,st⟩,nm,t⟩ ([⟨s,h,xs⟩]:List Val)=jb (qM (iw a nm) h).1 true):=Hm (by simp only[jl,xR,Int.reduceEq,if_false];rw[if_neg y];(try simp only[Int.reduceEq,if_false,if_true]));obtain⟨O,W,ad⟩:=fu R (show 0<1 by omega) (x:=⟨s,h,xs⟩) rfl;have X:=Hm y;clear y;go_enter Tryz.func131,Tryz.ntmps131;go_wp2_with fail;obtain⟨H,F,Z,Y,N1,N2,N3,N4, -,d⟩:=jh w 20 kd u t st nm;rw[<-F];clear F;have aa:w.heap.size<H.heap.size:=Nat.lt_trans (show w.heap.size<w.heap.size+1 by omega) Z.o.lt;have f:b<H.heap.size:=by have:=d.size;omega
 have ab:¬b=w.heap.size+1:=by omega
 obtain⟨q,l,r⟩:=V3.b W d O;simp only[Nat.zero_mul,Nat.one_mul,Nat.add_zero,Nat.reduceMul]at q l r;refine(CR _ _ _ _ a (S.b d) nm).mono ?_;rintro e g ⟨⟨A3,n3,c3,rfl,E,Q⟩,k⟩;have q:=eG k f q;have l:=eG k f l;have r:=eG k f r;have f:b<g.heap.size:=Nat.lt_of_lt_of_le f k.size;have Z:=Hm (Z.o.b k);have d:=eu d k;have ac:=Z.o.lt;clear k;go_wp2;obtain⟨j,p⟩: ∃j,j=g.alloc (.cells #[.string (iw a nm).name,.int .i64 (iw a nm).offset,.slice A3 n3 c3] 155):=⟨_,rfl⟩;have v:j.cell? ⟨g.heap.size,0,none⟩=some (.string (iw a nm).name):=by rw[p];simp[go_sem]
 have B:j.cell? ⟨g.heap.size,1,none⟩=some (.int .i64 (iw a nm).offset):=by rw[p];simp[go_sem]
 have C:j.cell? ⟨g.heap.size,2,none⟩=some (.slice A3 n3 c3):=by rw[p];simp[go_sem]
 have i:Below g.heap.size g j:=by rw[p];exact eB
 rw[<-p];clear p;have q:=eG i f q;have l:=eG i f l;have r:=eG i f r;have f:b<j.heap.size:=Nat.lt_of_lt_of_le f i.size;have Z:=Hm (Z.o.b i);have P:=E.b i;have d:=eu d i;have z:g.heap.size<j.heap.size:=lt_of_cell v;clear i E;go_region_held3 (λV=>V.cell? ⟨b,off+1,none⟩=some (.int .i64 h)/\V.cell? ⟨g.heap.size,0,none⟩=some (.string (iw a nm).name)/\V.cell? ⟨g.heap.size,1,none⟩=some (.int .i64 (iw a nm).offset)/\V.cell? ⟨g.heap.size,2,none⟩=some (.slice A3 n3 c3)) (first|exact⟨l,v,B,C⟩|exact⟨U,L,M,N⟩) (first|(go_at_call 153;refine(Kc _ A3 n3 c3 (iw a nm) (P.b (IJ).drew) Q h).mono ?_;rintro e T ⟨rfl,m⟩;have n:=eF m;have U:=eG n f l;have L:=eG n z v;have M:=eG n z B;have N:=eG n z C;have Z:=Hm (Z.o.b n);have d:=eu d n;clear m));go_wp2_with fail;refine(nI (qM (iw a nm) h).1 true _).mono ?_;rintro e T ⟨rfl,m⟩;have Z:=Hm (Z.o.b m);have d:=eu d m;clear m;obtain⟨z0,z1,z2,f0,f1,f2,_⟩:=Z.o;generalize D:jb (qM (iw a nm) h).1 true=K;obtain⟨bk,bn,bs⟩:=K;have I:=Hm D;clear D;simp only[Val.cells];go_wp2;refine jU rfl Z.o rfl rfl ⟨by rw[J.o,I.o],eT d Ho _ _ _⟩
theorem Na (a:Int)(D:List Zone)(kd q p:Int)(st nm:ByteArray)(w:World)(b off:Nat)(c:Nat)(g i j k:Int)(xs l:ByteArray)(L:In w (some ⟨b,off,none⟩) 2 c ([⟨g,i,xs⟩,⟨j,k,l⟩]:List Val))(s:¬g=0)(t:¬j=0)(J:4<=a/\a<=8)(ab:eX i)(ac:eX k)(E:Option Addr)(M c2:Nat)(hz:In w E M c2 D):
  Calls Tryz.prog 131 #[.agg #[.int .i64 a,.int .i64 kd,.int .i64 q,.string st,.string nm,.int .i64 p],.slice (some ⟨b,off,none⟩) 2 c,.slice E M c2] w λe w'=>e=.returned (.agg (jl D ⟨a,⟨kd,q,st⟩,nm,p⟩ ([⟨g,i,xs⟩,⟨j,k,l⟩]:List Val)).cells.toArray)/\Below w.heap.size w w':=by
 have X:Hl (jl D ⟨a,⟨kd,q,st⟩,nm,p⟩ ([⟨g,i,xs⟩,⟨j,k,l⟩]:List Val)=gQ a ⟨g,i,xs⟩ ⟨j,k,l⟩):=Hm (by simp only[jl];rw[if_neg Ho,if_neg Ho,if_neg Ho,if_neg (by rintro(h|h);exact s h;exact t h),iW,if_neg Ho,if_neg Ho,if_neg Ho,if_neg Ho,if_neg Ho]);obtain⟨r,xV,al⟩:=fu L (show 0<2 by omega) (x:=⟨g,i,xs⟩) rfl;obtain⟨r,yV,am⟩:=fu L (show 1<2 by omega) (x:=⟨j,k,l⟩) rfl;have ad:=Hm s;clear s;have ae:=Hm t;clear t;have e2:(a==2)=false:=by simp;omega
 have e3:(a==3)=false:=by simp;omega
 have e9:(a==9)=false:=by simp;omega
 have af:(a==10)=false:=by simp;omega
 have ag:(a==11)=false:=by simp;omega
 have ah:(a==12)=false:=by simp;omega
 have ai:(a==13)=false:=by simp;omega
 have aj:(a==19)=false:=by simp;omega
 have ak:(a==20)=false:=by simp;omega
 have W:=Hm J;clear J;go_enter Tryz.func131,Tryz.ntmps131;go_wp2;obtain⟨N,K,Z,F,N1,N2,N3,N4, -,n⟩:=jh w a kd q p st nm;rw[<-K];clear K;have aa:w.heap.size<N.heap.size:=Nat.lt_trans (show w.heap.size<w.heap.size+1 by omega) Z.o.lt;have m:b<N.heap.size:=by have:=n.size;omega
 have d:¬b=w.heap.size+1:=by omega
 obtain⟨v,y,z⟩:=V3.b xV n r;obtain⟨A,B,C⟩:=V3.b yV n r;simp only[Nat.zero_mul,Nat.one_mul,Nat.add_zero,Nat.reduceMul]at v y z A B C;have u:¬w.heap.size=w.heap.size+1:=by omega
 go_region_held3 (λV=>V.cell? ⟨b,off,none⟩=some (.int .i64 g)/\V.cell? ⟨b,off+1,none⟩=some (.int .i64 i)/\V.cell? ⟨b,off+2,none⟩=some (.string xs)/\V.cell? ⟨b,off+3,none⟩=some (.int .i64 j)/\V.cell? ⟨b,off+3+1,none⟩=some (.int .i64 k)/\V.cell? ⟨b,off+3+2,none⟩=some (.string l)/\V.cell? ⟨w.heap.size,0,none⟩=some (.int .i64 a)) (first|exact⟨v,y,z,A,B,C,F⟩|exact⟨O,P,Q,R,S,T,G⟩|exact⟨eD (eD (eD O (.inl d)) (.inl d)) (.inl d),eD (eD (eD P (.inl d)) (.inl d)) (.inl d),eD (eD (eD Q (.inl d)) (.inl d)) (.inl d),eD (eD (eD R (.inl d)) (.inl d)) (.inl d),eD (eD (eD S (.inl d)) (.inl d)) (.inl d),eD (eD (eD T (.inl d)) (.inl d)) (.inl d),eD (eD (eD G (.inl u)) (.inl u)) (.inl u)⟩) (first|(go_at_call 154;refine(Gg a W.o ⟨g,i,xs⟩ ⟨j,k,l⟩ ab ac _).mono ?_;rintro e w1 ⟨rfl,H⟩;have f:=eF H;have O:=eG f m v;have P:=eG f m y;have Q:=eG f m z;have R:=eG f m A;have S:=eG f m B;have T:=eG f m C;have G:=eG f aa F;have Z:=Hm (Z.o.b f);have n:=eu n f;clear H;obtain⟨z0,z1,z2,f0,f1,f2,_⟩:=Z.o;generalize I:gQ a ⟨g,i,xs⟩ ⟨j,k,l⟩=Y;obtain⟨bk,bn,bs⟩:=Y;have U:=Hm I;clear I;simp only[Val.cells]));go_wp2;refine jU rfl Z.o rfl rfl ⟨by rw[X.o,U.o],eT n Ho _ _ _⟩
theorem pR {v:Val}(h:valid v=true):eX v.num:=by
 unfold eX;rw[valid]at h
 (repeat' split at h)<;>simp at h<;>omega
theorem ze {s:ByteArray}(h:jH s=true):s.size=0:=by
 rw[jH,List.isEmpty_iff]at h;have:s.size=s.toList.length:=by rw[ByteArray.toList_eq];rfl
 rw[this,h];rfl
theorem pU {v:Val}(h:valid v=true):v.str.size<=64:=by
 rw[valid]at h
 (repeat' split at h)<;>simp at h
 all_goals first|(have:=ze h.2;omega)|(have:=ze h.1;omega)|omega
def oZ (a:Int):Bool:=a==0 || (a==14 || (a==15 || (a==16 || (a==17 || a==18))))
def JQ (a:List Zone)(n:Node)(l:List Val):Val:=if oZ n.op then jl a n l else fP
theorem kU (l:List Zone)(x:Node)(C:shaped x=true)(D:x.ok)(m:Nat)(o:arity x.op x.arity=(m:Int))(w:World)(A:Option Addr)(c:Nat)(xs:List Val)(a:In w A m c xs):
  Calls Tryz.prog 129 #[.agg x.cells.toArray,.slice A m c] w λe w'=>e=.returned (.tuple #[.agg (JQ l x xs).cells.toArray,.bool (oZ x.op)])/\Below w.heap.size w w':=by
 obtain⟨n,⟨kd,h,st⟩,nm,g⟩:=x;simp only at o;clear C;by_cases p:n=0
 ·subst p;have e:m=0:=by simp[arity]at o;omega
  subst e;obtain rfl:=a.len0;exact NH l kd h g st nm w A c
 by_cases r:n=14
 ·subst r;have e:m=2:=by simp[arity]at o;omega
  subst e;obtain⟨⟨d,f,xs⟩,⟨i,j,k⟩,b,off,rfl,rfl⟩:=a.len2;exact Nq l kd h g st nm w b off c d f i j xs k a
 by_cases s:n=15
 ·subst s;have e:m=2:=by simp[arity]at o;omega
  subst e;obtain⟨⟨d,f,xs⟩,⟨i,j,k⟩,b,off,rfl,rfl⟩:=a.len2;exact Nr l kd h g st nm w b off c d f i j xs k a
 by_cases t:n=16
 ·subst t;have e:m=1:=by simp[arity]at o;omega
  subst e;obtain⟨⟨d,f,xs⟩,b,off,rfl,rfl⟩:=a.len1;exact Ns l kd h g st nm w b off c d f xs a
 by_cases u:n=17
 ·subst u;have e:m=3:=by simp[arity]at o;omega
  subst e;obtain⟨⟨d,f,xs⟩,⟨i,j,k⟩,⟨y,z,zs⟩,b,off,rfl,rfl⟩:=a.len3;cases q:(truth ⟨d,f,xs⟩==1)
  ·exact MN l kd h g st nm w b off c d f i j y z xs k zs a q
  ·exact MO l kd h g st nm w b off c d f i j y z xs k zs a q
 by_cases v:n=18
 ·subst v;have e:m=2:=by simp[arity]at o;omega
  subst e;obtain⟨⟨d,f,xs⟩,⟨i,j,k⟩,b,off,rfl,rfl⟩:=a.len2;cases q:(d==0)
  ·exact MP l kd h g st nm w b off c d f i j xs k a q
  ·exact MQ l kd h g st nm w b off c d f i j xs k a q
 have B:oZ n=false:=by simp[oZ,p,r,s,t,u,v]
 simp only[JQ,B];exact Nt n kd h g st nm (by simpa using p) (by simpa using r) (by simpa using s) (by simpa using t) (by simpa using u) (by simpa using v) w _
theorem wK {x y:Val}(h:x≠y):(fV x y==0)=false/\(fV x y != 0)=true:=by
 have:fV x y≠0:=λq=>h (xq.1 q);simp[this]
theorem Cx {x y:Val}(h:x=y):(fV x y==0)=true/\(fV x y != 0)=false:=by
 have:fV x y=0:=xq.2 h;simp[this]
theorem AC (j:List Zone)(x:Node)(J:shaped x=true)(O:x.ok)(H:x.op≠1)(C:x.op≠21)(K:oZ x.op=false)(m:Nat)(D:arity x.op x.arity=(m:Int))(w:World)(A:Option Addr)(c:Nat)(xs:List Val)(g:In w A m c xs)(F: ∀v∈xs,valid v=true)(E: ∀v∈xs,v.kind≠0)(hb:x.op=2-> ∀v∈xs,v.kind=1)(f:Option Addr)(i c2:Nat)(o:In w f i c2 j):
  Calls Tryz.prog 131 #[.agg x.cells.toArray,.slice A m c,.slice f i c2] w λe w'=>e=.returned (.agg (jl j x xs).cells.toArray)/\Below w.heap.size w w':=by
 have M:=pM J H C;obtain⟨y,⟨kd,p,st⟩,nm,n⟩:=x;simp only at D M K hb H C;clear J;simp[oZ]at K;by_cases N:y=2\/y=3\/y=19\/y=20
 ·have e:m=1:=by rw[arity,if_neg Ho,if_pos Ho]at D;omega
  subst e;obtain⟨⟨a,d,xs⟩,b,off,rfl,rfl⟩:=g.len1;have B:=F ⟨a,d,xs⟩ II;have k:=E ⟨a,d,xs⟩ II;rcases N with rfl|rfl|rfl|rfl
  ·exact NF j kd p n st nm w b off c a d xs g k (hb rfl ⟨a,d,xs⟩ II) B f i c2 o
  ·exact NG j kd p n st nm w b off c a d xs g k (pR B) f i c2 o
  ·exact M6 j kd p n st nm w b off c a d xs g k f i c2 o
  ·exact M7 j kd p n st nm w b off c a d xs g k f i c2 o
 ·have e:m=2:=by rw[arity,if_neg Ho,if_neg Ho,if_neg Ho,if_neg C,if_pos Ho]at D;omega
  subst e;obtain⟨⟨a,d,xs⟩,⟨q,r,l⟩,b,off,rfl,rfl⟩:=g.len2;have B:=F ⟨a,d,xs⟩ II;have k:=E ⟨a,d,xs⟩ II;have G:=F ⟨q,r,l⟩ II;have u:=E ⟨q,r,l⟩ II;by_cases L:4<=y/\y<=8
  ·exact Na y j kd p n st nm w b off c a d q r xs l g k u L (pR B) (pR G) f i c2 o
  obtain rfl|rfl|rfl|rfl|rfl:y=9\/y=10\/y=11\/y=12\/y=13:=by omega
  ·by_cases I:64<(xs++l).size
   ·exact M9 j kd p n st nm w b off c a d q r xs l g k u (pU B) (pU G) I f i c2 o
   ·exact M8 j kd p n st nm w b off c a d q r xs l g k u (pU B) (pU G) I f i c2 o
  ·cases s:(a==q)
   ·exact xh 10 false false (.inl ⟨rfl,rfl⟩) j kd p n st nm w b off c a d q r xs l g k u (wK (λh=>by injection h with h _ _;simp[h]at s)) (.inl ⟨s,rfl⟩) f i c2 o
   ·cases t:(d==r)
    ·exact xh 10 false false (.inl ⟨rfl,rfl⟩) j kd p n st nm w b off c a d q r xs l g k u (wK (λh=>by injection h with _ h _;simp[h]at t)) (.inr (.inl ⟨s,t,rfl⟩)) f i c2 o
    ·cases z:(xs.toList==l.toList)
     ·exact xh 10 false false (.inl ⟨rfl,rfl⟩) j kd p n st nm w b off c a d q r xs l g k u (wK (λh=>by injection h with _ _ h;simp[h]at z)) (.inr (.inr (.inl ⟨s,t,z,rfl⟩))) f i c2 o
     ·exact xh 10 true true (.inl ⟨rfl,rfl⟩) j kd p n st nm w b off c a d q r xs l g k u (Cx (by simp at s t z;rw[s,t,rJ z])) (.inr (.inr (.inr ⟨s,t,z,rfl⟩))) f i c2 o
  ·cases s:(a==q)
   ·exact xh 11 false true (.inr ⟨rfl,rfl⟩) j kd p n st nm w b off c a d q r xs l g k u (wK (λh=>by injection h with h _ _;simp[h]at s)) (.inl ⟨s,rfl⟩) f i c2 o
   ·cases t:(d==r)
    ·exact xh 11 false true (.inr ⟨rfl,rfl⟩) j kd p n st nm w b off c a d q r xs l g k u (wK (λh=>by injection h with _ h _;simp[h]at t)) (.inr (.inl ⟨s,t,rfl⟩)) f i c2 o
    ·cases z:(xs.toList==l.toList)
     ·exact xh 11 false true (.inr ⟨rfl,rfl⟩) j kd p n st nm w b off c a d q r xs l g k u (wK (λh=>by injection h with _ _ h;simp[h]at z)) (.inr (.inr (.inl ⟨s,t,z,rfl⟩))) f i c2 o
     ·exact xh 11 true false (.inr ⟨rfl,rfl⟩) j kd p n st nm w b off c a d q r xs l g k u (Cx (by simp at s t z;rw[s,t,rJ z])) (.inr (.inr (.inr ⟨s,t,z,rfl⟩))) f i c2 o
  ·exact M4 j kd p n st nm w b off c a d q r xs l g k u f i c2 o
  ·exact M5 j kd p n st nm w b off c a d q r xs l g k u f i c2 o
def nH:Nat->List Val->Int
 | _,[]=> -1
 |k,v::l=>if v.kind=0 then k else nH (k+1) l
theorem Bg: ∀(l:List Val) (k:Nat),(decide (0<=nH k l))=l.any λv=>v.kind==0
 | [],k=>by simp[nH]
 |v::l,k=>by
  rw[nH,List.any_cons];by_cases h:v.kind=0
  ·rw[if_pos h];simp[h]
  ·rw[if_neg h,Bg l (k+1)];simp[h]
theorem zX (w:World)(A:Option Addr)(n c:Nat)(xs:List Val)(r:In w A n c xs)(t: ∀v∈xs,valid v=true):
  Calls Tryz.prog 150 #[.slice A n c,.agg #[.int .i64 0,.int .i64 0,.string ⟨#[]⟩]] w λe w'=>e=.returned (.int .i64 (nH 0 xs))/\Below w.heap.size w w':=by
 have I:=r.le;have y:=Hm t;clear t;go_enter Tryz.func150,Tryz.ntmps150;go_wp2;obtain⟨a,d⟩: ∃a,a=w.alloc (.cells #[.int .i64 0,.int .i64 0,.string ⟨#[]⟩] 67):=⟨_,rfl⟩;have D:a.cell? ⟨w.heap.size,0,none⟩=some (.int .i64 0):=by rw[d];simp[go_sem]
 have g1:a.cell? ⟨w.heap.size,1,none⟩=some (.int .i64 0):=by rw[d];simp[go_sem]
 have g2:a.cell? ⟨w.heap.size,2,none⟩=some (.string ⟨#[]⟩):=by rw[d];simp[go_sem]
 have p:Below w.heap.size w a:=by rw[d];exact eB
 rw[<-d];clear d;go_loopw [8] (λi wr=> ∃(k q:Nat),k<=n/\i=.int .i64 k/\nH 0 xs=nH k (xs.drop k)/\wr=a.drewN q) (λi _=>n-(intOf i).toNat)
 case atStart=>exact⟨0,0,Nat.zero_le _,rfl,rfl,rfl⟩
 case round=>
  obtain⟨k,q,K,rfl,s,rfl⟩:=hrel;have l:=Hm s;clear s;by_cases E:k<n
  ·obtain⟨b,off,x,rfl,J,m,h,f1,j,L⟩:=(r.b p).val E;have u:=y.o x (List.mem_of_mem_drop (i:=k) (by rw[m.o];simp));have F:a.cell? ⟨w.heap.size,0,none⟩=some (.int .i64 0):=D;have G:a.cell? ⟨w.heap.size,1,none⟩=some (.int .i64 0):=g1;have H:a.cell? ⟨w.heap.size,2,none⟩=some (.string ⟨#[]⟩):=g2;have M:(0:Int)<=(k:Int):=by omega
   have N:(k:Int)<(n:Int):=by omega
   by_cases g:x.kind=0
   ·obtain rfl:=Ad u g;have f:Hl (nH 0 xs=(k:Int)):=Hm (by rw[l.o,m.o,nH,if_pos g]);clear g u;have z:a.cell? ⟨b,off+k*3,none⟩=some (.int .i64 0):=h;have B:a.cell? ⟨b,off+k*3+1,none⟩=some (.int .i64 0):=f1;have C:a.cell? ⟨b,off+k*3+2,none⟩=some (.string ⟨#[]⟩):=j;clear h f1 j;go_wp2;go_quiet (fail);go_wp2;go_ret;exact⟨eQ f.o.symm,below_drewN (below_drewN p _) _⟩
   ·have f:Hl (nH 0 xs=nH (k+1) (xs.drop (k+1))):=Hm (by rw[l.o,m.o,nH,if_neg g]);have z:a.cell? ⟨b,off+k*3,none⟩=some (.int .i64 x.kind):=h;have B:a.cell? ⟨b,off+k*3+1,none⟩=some (.int .i64 x.num):=f1;have C:a.cell? ⟨b,off+k*3+2,none⟩=some (.string x.str):=j;clear h f1 j;have O:((0:Int)==x.kind)=false:=by simp;omega
    have P:(x.kind==0)=false:=by simpa using g
    go_wp2;go_quiet (fail);go_wp2;go_roundw
    case rel=>exact⟨k+1,_,Ho,by go_num,f.o,rfl⟩
    case measure=>simp[intOf];omega
  ·have f:Hl (nH 0 xs= -1):=Hm (by rw[l.o,fG r.len Ho,nH]);go_wp2;go_ret;exact⟨eQ f.o.symm,below_drewN p _⟩
theorem mg (w:World)(A:Option Addr)(n c:Nat)(xs:List Val)(g:In w A n c xs)(f: ∀v∈xs,valid v=true):
  Calls Tryz.prog 130 #[.slice A n c,.agg #[.int .i64 0,.int .i64 0,.string ⟨#[]⟩]] w λe w'=>e=.returned (.bool (xs.any λv=>v.kind==0))/\Below w.heap.size w w':=by
 have a:=Hm (Bg xs 0);go_enter Tryz.func130,Tryz.ntmps130;go_wp2_with fail;refine(zX _ _ _ _ xs (g.b eB) f).mono ?_;rintro e h ⟨rfl,d⟩;go_wp2;go_ret;exact⟨eU a.o,eu eB d⟩
def pairs:List Col->List Val->List (ByteArray×Value)
 |c::cs,v::vs=>(c.name,.agg v.cells.toArray)::pairs cs vs
 | _,_=>[]
theorem zn {c:Col}{v:Val}: ∀{cs:List Col} {vs:List Val},cs.length=vs.length->pairs (cs++[c]) (vs++[v])=pairs cs vs++[(c.name,.agg v.cells.toArray)]
 | [],[],_=>rfl
 |a::cs,b::vs,h=>by
  have:=zn (c:=c) (v:=v) (cs:=cs) (vs:=vs) (by simpa using h);rw[List.cons_append,List.cons_append,pairs,this,pairs];rfl
 | [],_::_,h=>by simp at h
 | _::_,[],h=>by simp at h
theorem tN {name:ByteArray}: ∀{cols:List Col} {row:List Val} {k:Nat},cols.length=row.length->
  (fU name k cols= -1->mZ name (pairs cols row)=none)/\(∀j:Nat,fU name k cols=((k+j:Nat):Int)->mZ name (pairs cols row)=some (.agg (row.getD j fP).cells.toArray))
 | [],[],k,_=>⟨λ_=>rfl,λj h=>by rw[fU]at h;omega⟩
 |c::cols,v::row,k,h=>by
  have e:=tN (name:=name) (cols:=cols) (row:=row) (k:=k+1) (by simpa using h);have d:=ll name cols (k+1);rw[pairs,fU];by_cases a:(c.name.toList==name.toList)=true
  ·rw[if_pos a];refine⟨λq=>by omega,λj q=>?_⟩;obtain rfl:j=0:=by omega
   have b:(name.toList==c.name.toList)=true:=by rw[BEq.comm];exact a
   simp[mZ,b]
  ·rw[if_neg a];have b:(name.toList==c.name.toList)=false:=by
    rw[BEq.comm];simpa using a
   refine⟨λq=>?_,λj q=>?_⟩
   ·have:=e.1 q;simpa[mZ,b] using this
   ·have f:0<j:=by
     rcases d with d|d
     ·omega
     ·omega
    obtain⟨j,rfl⟩: ∃i,j=i+1:=⟨j-1,Ho⟩;have:=e.2 j (by rw[q];congr 1;omega);simpa[mZ,b] using this
 | [],_::_,_,h=>by simp at h
 | _::_,[],_,h=>by simp at h
theorem tC (name:ByteArray): ∀(l:List Col) (i k:Nat),fU name i (l.take k)= -1\/(fU name i l<i+k)
 | [],i,k=>by simp[fU]
 |c::l,i,0=>by simp[fU]
 |c::l,i,k+1=>by
  rw[List.take_succ_cons,fU,fU]
  split
  ·right;omega
  ·rcases tC name l (i+1) k with h|h
   ·exact .inl h
   ·right;omega
theorem Jk {cols:List Col}{row:List Val}{k:Nat}{c:Col}(a:fq cols=0)(d:cols.length=row.length)(b:cols[k]?=some c):mZ c.name (pairs (cols.take k) (row.take k))=none:=by
 refine(tN (k:=0) (by rw[List.length_take,List.length_take,d])).1 ?_;rcases tC c.name cols 0 k with h|h
 ·exact h
 ·exfalso;rw[fq]at a
  split at a
  ·omega
  ·have:=je a k c b;rw[kM]at this
   (repeat' split at this)<;>first|omega|(rename_i q;exact q (by rw[index];omega))
theorem Fp {cols:List Col}{row:List Val}{k:Nat}{c:Col}{v:Val}(b:cols.length=row.length)(a:cols[k]?=some c)(d:row[k]?=some v):pairs (cols.take (k+1)) (row.take (k+1))=pairs (cols.take k) (row.take k)++[(c.name,.agg v.cells.toArray)]:=by
 rw[List.take_add_one,List.take_add_one,a,d];exact zn (by rw[List.length_take,List.length_take,b])
theorem Jj {cols:List Col}{row:List Val}{name:ByteArray}(a:cols.length=row.length)(hi:0<=index cols name):mZ name (pairs cols row)=some (.agg (row.getD (index cols name).toNat fP).cells.toArray):=by
 refine(tN (k:=0) a).2 _ ?_;rw[index]at*;omega
theorem DC {o:List Zone}{x:Node}{m:Nat}{xs:List Val}(n:shaped x=true)(h:x.op≠1)(f:x.op≠21)(k:oZ x.op=false)(g:arity x.op x.arity=(m:Int))(i:xs.length=m)(j:(xs.any λv=>v.kind==0)=true):jl o x xs=fP:=by
 have l:=pM n h f;obtain⟨c,v,nm,p⟩:=x;simp only at g l k h f;simp[oZ]at k;by_cases q:c=2\/c=3\/c=19\/c=20
 ·have e:m=1:=by rw[arity,if_neg Ho,if_pos Ho]at g;omega
  subst e;obtain⟨a,rfl⟩:=xC i;have d:a.kind=0:=by simpa using j
  simp only[jl];rw[xR,if_neg Ho,if_pos d]
 ·have e:m=2:=by rw[arity,if_neg Ho,if_neg Ho,if_neg Ho,if_neg f,if_pos Ho]at g;omega
  subst e;obtain⟨a,b,rfl⟩:=Ji i;have d:a.kind=0\/b.kind=0:=by simpa using j
  simp only[jl];rw[if_neg Ho,if_neg Ho,if_neg Ho,if_pos d]
theorem mi {cols:List Col}{row:List Val}{a:List Zone}{x:Node}{xs:List Val}(b:x.op≠1):lG cols row a x xs=jl a x xs:=by rw[lG,if_neg b]
theorem xL {a:List Zone}{x:Node}{xs:List Val}(h:oZ x.op=true):JQ a x xs=jl a x xs:=by rw[JQ,if_pos h]
theorem yh {a:List Zone}{x:Node}{xs:List Val}(h:oZ x.op=false):JQ a x xs=fP:=by rw[JQ,h];rfl
end Go.Proofs.YthnelebakkggjaaGreatDoor
