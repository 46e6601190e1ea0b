/-
  warehouseref9.value: it returns nodeV. (Printed by gen_val9.py.)
-/
import Derived.Test.YtggejcekmehocaaGreatDoorGat
import Derived.Test.YtggejcekmehocaaGreatDoorArB
namespace Go.Proofs.YtggejcekmehocaaGreatDoor
set_option maxHeartbeats 2000000
set_option maxRecDepth 100000
open Go.RowKit
set_option linter.unusedSimpArgs false
set_option linter.unusedVariables false
theorem X3 (zz:List Zone)(kd nu ar:Int)(st nm:ByteArray)(w:World)(A:Option Addr)(c:Nat)(A1:Option Addr)(n1 c1:Nat)(A3:Option Addr)(n3 c3:Nat)(A2:Option Addr)(n2 c2:Nat)(hz:In w A2 n2 c2 zz):
  Calls Tryz.prog 181 #[.agg #[.int .i64 0,.int .i64 kd,.int .i64 nu,.string st,.string nm,.int .i64 ar],.slice A 0 c,.slice A1 n1 c1,.slice A3 n3 c3,.slice A2 n2 c2] w λe w'=>e=.returned (.agg (eO zz ⟨0,⟨kd,nu,st⟩,nm,ar⟩ ([]:List Val)).cells.toArray)/\Below w.heap.size w w':=by
 have HV:Hid (eO zz ⟨0,⟨kd,nu,st⟩,nm,ar⟩ ([]:List Val)=⟨kd,nu,st⟩):=hide (by rfl)
 go_enter Tryz.func181,Tryz.ntmps181
 go_wp2
 refine bodyPost_ret (v:=.agg (Val.cells ⟨kd,nu,st⟩).toArray) (by simp[results,Tryz.results181,go_sem,Val.cells]) rfl ⟨by rw[HV.out],by first|exact below_alloc2|exact au below_alloc2 (by omega) _ _ _⟩
theorem UZ (zz:List Zone)(kd nu ar:Int)(st nm:ByteArray)(w:World)(b off:Nat)(c:Nat)(xk xn yk yn:Int)(xs ys:ByteArray)(hx:In w (some ⟨b,off,none⟩) 2 c ([⟨xk,xn,xs⟩,⟨yk,yn,ys⟩]:List Val))(A1:Option Addr)(n1 c1:Nat)(A3:Option Addr)(n3 c3:Nat)(A2:Option Addr)(n2 c2:Nat)(hz:In w A2 n2 c2 zz):
  Calls Tryz.prog 181 #[.agg #[.int .i64 14,.int .i64 kd,.int .i64 nu,.string st,.string nm,.int .i64 ar],.slice (some ⟨b,off,none⟩) 2 c,.slice A1 n1 c1,.slice A3 n3 c3,.slice A2 n2 c2] w λe w'=>e=.returned (.agg (eO zz ⟨14,⟨kd,nu,st⟩,nm,ar⟩ ([⟨xk,xn,xs⟩,⟨yk,yn,ys⟩]:List Val)).cells.toArray)/\Below w.heap.size w w':=by
 have HV:Hid (eO zz ⟨14,⟨kd,nu,st⟩,nm,ar⟩ ([⟨xk,xn,xs⟩,⟨yk,yn,ys⟩]:List Val)=dU ⟨xk,xn,xs⟩ ⟨yk,yn,ys⟩ 0):=hide (by rfl)
 obtain ⟨hB,xV,qC⟩:=aG hx (show 0<2 by omega) (x:=⟨xk,xn,xs⟩) rfl
 obtain ⟨hB,yV,xx⟩:=aG hx (show 1<2 by omega) (x:=⟨yk,yn,ys⟩) rfl
 go_enter Tryz.func181,Tryz.ntmps181
 go_upto_region 7 with (fail)
 obtain ⟨w0,hw0,Z,N0,N1,N2,N3,N4, -,hb0⟩:=eG w 14 kd nu ar st nm
 rw[<-hw0]
 clear hw0
 have hn0:w.heap.size<w0.heap.size:=Nat.lt_trans (show w.heap.size<w.heap.size+1 by omega) Z.out.lt
 have hB0:b<w0.heap.size:=by have:=hb0.size;omega
 have hne:¬b=w.heap.size+1:=by omega
 obtain ⟨x0,x1,x2⟩:=V3.below xV hb0 hB
 obtain ⟨y0,y1,y2⟩:=V3.below yV hb0 hB
 simp only[Nat.zero_mul,Nat.one_mul,Nat.add_zero,Nat.reduceMul]at x0 x1 x2 y0 y1 y2
 go_region_held3 (λV=>V.cell? ⟨b,off,none⟩=some (.int .i64 xk)/\V.cell? ⟨b,off+1,none⟩=some (.int .i64 xn)/\V.cell? ⟨b,off+2,none⟩=some (.string xs)/\V.cell? ⟨b,off+3,none⟩=some (.int .i64 yk)/\V.cell? ⟨b,off+3+1,none⟩=some (.int .i64 yn)/\V.cell? ⟨b,off+3+2,none⟩=some (.string ys)) (first|exact ⟨x0,x1,x2,y0,y1,y2⟩|exact ⟨x0',x1',x2',y0',y1',y2'⟩|exact ⟨ae (ae (ae x0' (.inl hne)) (.inl hne)) (.inl hne),ae (ae (ae x1' (.inl hne)) (.inl hne)) (.inl hne),ae (ae (ae x2' (.inl hne)) (.inl hne)) (.inl hne),ae (ae (ae y0' (.inl hne)) (.inl hne)) (.inl hne),ae (ae (ae y1' (.inl hne)) (.inl hne)) (.inl hne),ae (ae (ae y2' (.inl hne)) (.inl hne)) (.inl hne)⟩) (first|(go_at_call 220;refine (Bv ⟨xk,xn,xs⟩ ⟨yk,yn,ys⟩ qC xx 0 _).mono ?_;rintro e w1 ⟨rfl,hb1⟩;have hq:=ag hb1;have x0':=ah hq hB0 x0;have x1':=ah hq hB0 x1;have x2':=ah hq hB0 x2;have y0':=ah hq hB0 y0;have y1':=ah hq hB0 y1;have y2':=ah hq hB0 y2;have Z:=hide (Z.out.below hq);have hb0:=aa hb0 hq;clear hb1;obtain ⟨z0,z1,z2,f0,f1,f2,_⟩:=Z.out;generalize hbv:dU ⟨xk,xn,xs⟩ ⟨yk,yn,ys⟩ 0=bv;obtain ⟨bk,bn,bs⟩:=bv;have fo:=hide hbv;clear hbv;simp only[Val.cells]))
 go_wp2
 refine gH rfl Z.out rfl rfl ⟨by rw[HV.out,fo.out],au hb0 (by omega) _ _ _⟩
theorem U1 (zz:List Zone)(kd nu ar:Int)(st nm:ByteArray)(w:World)(b off:Nat)(c:Nat)(xk xn yk yn:Int)(xs ys:ByteArray)(hx:In w (some ⟨b,off,none⟩) 2 c ([⟨xk,xn,xs⟩,⟨yk,yn,ys⟩]:List Val))(A1:Option Addr)(n1 c1:Nat)(A3:Option Addr)(n3 c3:Nat)(A2:Option Addr)(n2 c2:Nat)(hz:In w A2 n2 c2 zz):
  Calls Tryz.prog 181 #[.agg #[.int .i64 15,.int .i64 kd,.int .i64 nu,.string st,.string nm,.int .i64 ar],.slice (some ⟨b,off,none⟩) 2 c,.slice A1 n1 c1,.slice A3 n3 c3,.slice A2 n2 c2] w λe w'=>e=.returned (.agg (eO zz ⟨15,⟨kd,nu,st⟩,nm,ar⟩ ([⟨xk,xn,xs⟩,⟨yk,yn,ys⟩]:List Val)).cells.toArray)/\Below w.heap.size w w':=by
 have HV:Hid (eO zz ⟨15,⟨kd,nu,st⟩,nm,ar⟩ ([⟨xk,xn,xs⟩,⟨yk,yn,ys⟩]:List Val)=dU ⟨xk,xn,xs⟩ ⟨yk,yn,ys⟩ 1):=hide (by rfl)
 obtain ⟨hB,xV,qC⟩:=aG hx (show 0<2 by omega) (x:=⟨xk,xn,xs⟩) rfl
 obtain ⟨hB,yV,xx⟩:=aG hx (show 1<2 by omega) (x:=⟨yk,yn,ys⟩) rfl
 go_enter Tryz.func181,Tryz.ntmps181
 go_upto_region 9 with (fail)
 obtain ⟨w0,hw0,Z,N0,N1,N2,N3,N4, -,hb0⟩:=eG w 15 kd nu ar st nm
 rw[<-hw0]
 clear hw0
 have hn0:w.heap.size<w0.heap.size:=Nat.lt_trans (show w.heap.size<w.heap.size+1 by omega) Z.out.lt
 have hB0:b<w0.heap.size:=by have:=hb0.size;omega
 have hne:¬b=w.heap.size+1:=by omega
 obtain ⟨x0,x1,x2⟩:=V3.below xV hb0 hB
 obtain ⟨y0,y1,y2⟩:=V3.below yV hb0 hB
 simp only[Nat.zero_mul,Nat.one_mul,Nat.add_zero,Nat.reduceMul]at x0 x1 x2 y0 y1 y2
 go_region_held3 (λV=>V.cell? ⟨b,off,none⟩=some (.int .i64 xk)/\V.cell? ⟨b,off+1,none⟩=some (.int .i64 xn)/\V.cell? ⟨b,off+2,none⟩=some (.string xs)/\V.cell? ⟨b,off+3,none⟩=some (.int .i64 yk)/\V.cell? ⟨b,off+3+1,none⟩=some (.int .i64 yn)/\V.cell? ⟨b,off+3+2,none⟩=some (.string ys)) (first|exact ⟨x0,x1,x2,y0,y1,y2⟩|exact ⟨x0',x1',x2',y0',y1',y2'⟩|exact ⟨ae (ae (ae x0' (.inl hne)) (.inl hne)) (.inl hne),ae (ae (ae x1' (.inl hne)) (.inl hne)) (.inl hne),ae (ae (ae x2' (.inl hne)) (.inl hne)) (.inl hne),ae (ae (ae y0' (.inl hne)) (.inl hne)) (.inl hne),ae (ae (ae y1' (.inl hne)) (.inl hne)) (.inl hne),ae (ae (ae y2' (.inl hne)) (.inl hne)) (.inl hne)⟩) (first|(go_at_call 220;refine (Bv ⟨xk,xn,xs⟩ ⟨yk,yn,ys⟩ qC xx 1 _).mono ?_;rintro e w1 ⟨rfl,hb1⟩;have hq:=ag hb1;have x0':=ah hq hB0 x0;have x1':=ah hq hB0 x1;have x2':=ah hq hB0 x2;have y0':=ah hq hB0 y0;have y1':=ah hq hB0 y1;have y2':=ah hq hB0 y2;have Z:=hide (Z.out.below hq);have hb0:=aa hb0 hq;clear hb1;obtain ⟨z0,z1,z2,f0,f1,f2,_⟩:=Z.out;generalize hbv:dU ⟨xk,xn,xs⟩ ⟨yk,yn,ys⟩ 1=bv;obtain ⟨bk,bn,bs⟩:=bv;have fo:=hide hbv;clear hbv;simp only[Val.cells]))
 go_wp2
 refine gH rfl Z.out rfl rfl ⟨by rw[HV.out,fo.out],au hb0 (by omega) _ _ _⟩
theorem U2 (zz:List Zone)(kd nu ar:Int)(st nm:ByteArray)(w:World)(b off:Nat)(c:Nat)(xk xn:Int)(xs:ByteArray)(hx:In w (some ⟨b,off,none⟩) 1 c ([⟨xk,xn,xs⟩]:List Val))(A1:Option Addr)(n1 c1:Nat)(A3:Option Addr)(n3 c3:Nat)(A2:Option Addr)(n2 c2:Nat)(hz:In w A2 n2 c2 zz):
  Calls Tryz.prog 181 #[.agg #[.int .i64 16,.int .i64 kd,.int .i64 nu,.string st,.string nm,.int .i64 ar],.slice (some ⟨b,off,none⟩) 1 c,.slice A1 n1 c1,.slice A3 n3 c3,.slice A2 n2 c2] w λe w'=>e=.returned (.agg (eO zz ⟨16,⟨kd,nu,st⟩,nm,ar⟩ ([⟨xk,xn,xs⟩]:List Val)).cells.toArray)/\Below w.heap.size w w':=by
 have HV:Hid (eO zz ⟨16,⟨kd,nu,st⟩,nm,ar⟩ ([⟨xk,xn,xs⟩]:List Val)=dM (xk==0)):=hide (by rfl)
 obtain ⟨hB,xV,qC⟩:=aG hx (show 0<1 by omega) (x:=⟨xk,xn,xs⟩) rfl
 go_enter Tryz.func181,Tryz.ntmps181
 go_upto_region 11 with (fail)
 obtain ⟨w0,hw0,Z,N0,N1,N2,N3,N4, -,hb0⟩:=eG w 16 kd nu ar st nm
 rw[<-hw0]
 clear hw0
 have hn0:w.heap.size<w0.heap.size:=Nat.lt_trans (show w.heap.size<w.heap.size+1 by omega) Z.out.lt
 have hB0:b<w0.heap.size:=by have:=hb0.size;omega
 have hne:¬b=w.heap.size+1:=by omega
 obtain ⟨x0,x1,x2⟩:=V3.below xV hb0 hB
 simp only[Nat.zero_mul,Nat.one_mul,Nat.add_zero,Nat.reduceMul]at x0 x1 x2
 go_wp2_with fail
 refine (j3 (xk==0) _).mono ?_
 rintro e w3 ⟨rfl,hb3⟩
 have Z:=hide (Z.out.below hb3)
 have hb0:=aa hb0 hb3
 clear hb3
 obtain ⟨z0,z1,z2,f0,f1,f2,_⟩:=Z.out
 generalize hbv:dM (xk==0)=bv
 obtain ⟨bk,bn,bs⟩:=bv
 have fo:=hide hbv
 clear hbv
 simp only[Val.cells]
 go_wp2
 refine gH rfl Z.out rfl rfl ⟨by rw[HV.out,fo.out],au hb0 (by omega) _ _ _⟩
theorem RI (zz:List Zone)(kd nu ar:Int)(st nm:ByteArray)(w:World)(b off:Nat)(c:Nat)(xk xn yk yn zk zn:Int)(xs ys zs:ByteArray)(hx:In w (some ⟨b,off,none⟩) 3 c ([⟨xk,xn,xs⟩,⟨yk,yn,ys⟩,⟨zk,zn,zs⟩]:List Val))(q:(truth ⟨xk,xn,xs⟩==1)=true)(A1:Option Addr)(n1 c1:Nat)(A3:Option Addr)(n3 c3:Nat)(A2:Option Addr)(n2 c2:Nat)(hz:In w A2 n2 c2 zz):
  Calls Tryz.prog 181 #[.agg #[.int .i64 17,.int .i64 kd,.int .i64 nu,.string st,.string nm,.int .i64 ar],.slice (some ⟨b,off,none⟩) 3 c,.slice A1 n1 c1,.slice A3 n3 c3,.slice A2 n2 c2] w λe w'=>e=.returned (.agg (eO zz ⟨17,⟨kd,nu,st⟩,nm,ar⟩ ([⟨xk,xn,xs⟩,⟨yk,yn,ys⟩,⟨zk,zn,zs⟩]:List Val)).cells.toArray)/\Below w.heap.size w w':=by
 have HV:Hid (eO zz ⟨17,⟨kd,nu,st⟩,nm,ar⟩ ([⟨xk,xn,xs⟩,⟨yk,yn,ys⟩,⟨zk,zn,zs⟩]:List Val)=⟨yk,yn,ys⟩):=hide (by simp only[eO];rw[if_pos (by simpa using q)])
 obtain ⟨hB,xV,qC⟩:=aG hx (show 0<3 by omega) (x:=⟨xk,xn,xs⟩) rfl
 obtain ⟨hB,yV,xx⟩:=aG hx (show 1<3 by omega) (x:=⟨yk,yn,ys⟩) rfl
 obtain ⟨hB,zV,Yb⟩:=aG hx (show 2<3 by omega) (x:=⟨zk,zn,zs⟩) rfl
 obtain ⟨p,hp⟩: ∃p,truth ⟨xk,xn,xs⟩=p:=⟨_,rfl⟩
 rw[hp]at q
 have HP:=hide hp
 clear hp
 go_enter Tryz.func181,Tryz.ntmps181
 go_upto_region 13 with (fail)
 obtain ⟨w0,hw0,Z,N0,N1,N2,N3,N4, -,hb0⟩:=eG w 17 kd nu ar st nm
 rw[<-hw0]
 clear hw0
 have hn0:w.heap.size<w0.heap.size:=Nat.lt_trans (show w.heap.size<w.heap.size+1 by omega) Z.out.lt
 have hB0:b<w0.heap.size:=by have:=hb0.size;omega
 have hne:¬b=w.heap.size+1:=by omega
 obtain ⟨x0,x1,x2⟩:=V3.below xV hb0 hB
 obtain ⟨y0,y1,y2⟩:=V3.below yV hb0 hB
 obtain ⟨z0,z1,z2⟩:=V3.below zV hb0 hB
 simp only[Nat.zero_mul,Nat.one_mul,Nat.add_zero,Nat.reduceMul]at x0 x1 x2 y0 y1 y2 z0 z1 z2
 go_wp2_with fail
 refine (qc ⟨xk,xn,xs⟩ qC _).mono ?_
 rintro e w1 ⟨rfl,hb1⟩
 have y0:=ah hb1 hB0 y0
 have y1:=ah hb1 hB0 y1
 have y2:=ah hb1 hB0 y2
 have z0:=ah hb1 hB0 z0
 have z1:=ah hb1 hB0 z1
 have z2:=ah hb1 hB0 z2
 have Z:=hide (Z.out.below hb1)
 have hb0:=aa hb0 hb1
 clear hb1
 rw[HP.out]
 obtain ⟨q0,q1,q2,f0,f1,f2,_⟩:=Z.out
 go_wp2
 refine gH rfl Z.out rfl rfl ⟨by rw[HV.out],au hb0 (by omega) _ _ _⟩
theorem RH (zz:List Zone)(kd nu ar:Int)(st nm:ByteArray)(w:World)(b off:Nat)(c:Nat)(xk xn yk yn zk zn:Int)(xs ys zs:ByteArray)(hx:In w (some ⟨b,off,none⟩) 3 c ([⟨xk,xn,xs⟩,⟨yk,yn,ys⟩,⟨zk,zn,zs⟩]:List Val))(q:(truth ⟨xk,xn,xs⟩==1)=false)(A1:Option Addr)(n1 c1:Nat)(A3:Option Addr)(n3 c3:Nat)(A2:Option Addr)(n2 c2:Nat)(hz:In w A2 n2 c2 zz):
  Calls Tryz.prog 181 #[.agg #[.int .i64 17,.int .i64 kd,.int .i64 nu,.string st,.string nm,.int .i64 ar],.slice (some ⟨b,off,none⟩) 3 c,.slice A1 n1 c1,.slice A3 n3 c3,.slice A2 n2 c2] w λe w'=>e=.returned (.agg (eO zz ⟨17,⟨kd,nu,st⟩,nm,ar⟩ ([⟨xk,xn,xs⟩,⟨yk,yn,ys⟩,⟨zk,zn,zs⟩]:List Val)).cells.toArray)/\Below w.heap.size w w':=by
 have HV:Hid (eO zz ⟨17,⟨kd,nu,st⟩,nm,ar⟩ ([⟨xk,xn,xs⟩,⟨yk,yn,ys⟩,⟨zk,zn,zs⟩]:List Val)=⟨zk,zn,zs⟩):=hide (by simp only[eO];rw[if_neg (by simpa using q)])
 obtain ⟨hB,xV,qC⟩:=aG hx (show 0<3 by omega) (x:=⟨xk,xn,xs⟩) rfl
 obtain ⟨hB,yV,xx⟩:=aG hx (show 1<3 by omega) (x:=⟨yk,yn,ys⟩) rfl
 obtain ⟨hB,zV,Yb⟩:=aG hx (show 2<3 by omega) (x:=⟨zk,zn,zs⟩) rfl
 obtain ⟨p,hp⟩: ∃p,truth ⟨xk,xn,xs⟩=p:=⟨_,rfl⟩
 rw[hp]at q
 have HP:=hide hp
 clear hp
 go_enter Tryz.func181,Tryz.ntmps181
 go_upto_region 13 with (fail)
 obtain ⟨w0,hw0,Z,N0,N1,N2,N3,N4, -,hb0⟩:=eG w 17 kd nu ar st nm
 rw[<-hw0]
 clear hw0
 have hn0:w.heap.size<w0.heap.size:=Nat.lt_trans (show w.heap.size<w.heap.size+1 by omega) Z.out.lt
 have hB0:b<w0.heap.size:=by have:=hb0.size;omega
 have hne:¬b=w.heap.size+1:=by omega
 obtain ⟨x0,x1,x2⟩:=V3.below xV hb0 hB
 obtain ⟨y0,y1,y2⟩:=V3.below yV hb0 hB
 obtain ⟨z0,z1,z2⟩:=V3.below zV hb0 hB
 simp only[Nat.zero_mul,Nat.one_mul,Nat.add_zero,Nat.reduceMul]at x0 x1 x2 y0 y1 y2 z0 z1 z2
 go_wp2_with fail
 refine (qc ⟨xk,xn,xs⟩ qC _).mono ?_
 rintro e w1 ⟨rfl,hb1⟩
 have y0:=ah hb1 hB0 y0
 have y1:=ah hb1 hB0 y1
 have y2:=ah hb1 hB0 y2
 have z0:=ah hb1 hB0 z0
 have z1:=ah hb1 hB0 z1
 have z2:=ah hb1 hB0 z2
 have Z:=hide (Z.out.below hb1)
 have hb0:=aa hb0 hb1
 clear hb1
 rw[HP.out]
 obtain ⟨q0,q1,q2,f0,f1,f2,_⟩:=Z.out
 go_wp2
 refine gH rfl Z.out rfl rfl ⟨by rw[HV.out],au hb0 (by omega) _ _ _⟩
theorem Qe (zz:List Zone)(kd nu ar:Int)(st nm:ByteArray)(w:World)(b off:Nat)(c:Nat)(xk xn yk yn:Int)(xs ys:ByteArray)(hx:In w (some ⟨b,off,none⟩) 2 c ([⟨xk,xn,xs⟩,⟨yk,yn,ys⟩]:List Val))(A1:Option Addr)(n1 c1:Nat)(A3:Option Addr)(n3 c3:Nat)(A2:Option Addr)(n2 c2:Nat)(hz:In w A2 n2 c2 zz):
  Calls Tryz.prog 181 #[.agg #[.int .i64 18,.int .i64 kd,.int .i64 nu,.string st,.string nm,.int .i64 ar],.slice (some ⟨b,off,none⟩) 2 c,.slice A1 n1 c1,.slice A3 n3 c3,.slice A2 n2 c2] w λe w'=>e=.returned (.agg (eO zz ⟨18,⟨kd,nu,st⟩,nm,ar⟩ ([⟨xk,xn,xs⟩,⟨yk,yn,ys⟩]:List Val)).cells.toArray)/\Below w.heap.size w w':=by
 rcases Bool.eq_false_or_eq_true (xk==0) with q|q
 all_goals
  first|(have:=(show (xk==0)=true from q);have HV:Hid (eO zz ⟨18,⟨kd,nu,st⟩,nm,ar⟩ ([⟨xk,xn,xs⟩,⟨yk,yn,ys⟩]:List Val)=⟨yk,yn,ys⟩):=hide (by simp only[eO,Int.reduceEq,if_false,if_true];rw[if_pos (by simpa using q)]))|(have HV:Hid (eO zz ⟨18,⟨kd,nu,st⟩,nm,ar⟩ ([⟨xk,xn,xs⟩,⟨yk,yn,ys⟩]:List Val)=⟨xk,xn,xs⟩):=hide (by simp only[eO,Int.reduceEq,if_false,if_true];rw[if_neg (by simpa using q)]))
  obtain ⟨hB,xV,qC⟩:=aG hx (show 0<2 by omega) (x:=⟨xk,xn,xs⟩) rfl
  obtain ⟨hB,yV,xx⟩:=aG hx (show 1<2 by omega) (x:=⟨yk,yn,ys⟩) rfl
  first|(have:=(show (xk==0)=true from q);have q2:(xk != 0)=false:=by simpa using q)|(have q2:(xk != 0)=true:=by simpa using q)
  go_enter Tryz.func181,Tryz.ntmps181
  go_upto_region 17 with (fail)
  obtain ⟨w0,hw0,Z,N0,N1,N2,N3,N4, -,hb0⟩:=eG w 18 kd nu ar st nm
  rw[<-hw0]
  clear hw0
  have hn0:w.heap.size<w0.heap.size:=Nat.lt_trans (show w.heap.size<w.heap.size+1 by omega) Z.out.lt
  have hB0:b<w0.heap.size:=by have:=hb0.size;omega
  have hne:¬b=w.heap.size+1:=by omega
  obtain ⟨x0,x1,x2⟩:=V3.below xV hb0 hB
  obtain ⟨y0,y1,y2⟩:=V3.below yV hb0 hB
  simp only[Nat.zero_mul,Nat.one_mul,Nat.add_zero,Nat.reduceMul]at x0 x1 x2 y0 y1 y2
  obtain ⟨z0,z1,z2,f0,f1,f2,_⟩:=Z.out
  go_wp2
  first|(have:=(show (xk==0)=true from q);refine gH rfl Z.out rfl rfl ⟨by rw[HV.out],au hb0 (by omega) _ _ _⟩)|(refine gH rfl Z.out rfl rfl ⟨by rw[HV.out],au hb0 (by omega) _ _ _⟩)
theorem X5 (zz:List Zone)(kd nu ar:Int)(st nm:ByteArray)(w:World)(b off:Nat)(c:Nat)(xk xn:Int)(xs:ByteArray)(hx:In w (some ⟨b,off,none⟩) 1 c ([⟨xk,xn,xs⟩]:List Val))(A1:Option Addr)(n1 c1:Nat)(A3:Option Addr)(n3 c3:Nat)(A2:Option Addr)(n2 c2:Nat)(hz:In w A2 n2 c2 zz):
  Calls Tryz.prog 181 #[.agg #[.int .i64 2,.int .i64 kd,.int .i64 nu,.string st,.string nm,.int .i64 ar],.slice (some ⟨b,off,none⟩) 1 c,.slice A1 n1 c1,.slice A3 n3 c3,.slice A2 n2 c2] w λe w'=>e=.returned (.agg (eO zz ⟨2,⟨kd,nu,st⟩,nm,ar⟩ ([⟨xk,xn,xs⟩]:List Val)).cells.toArray)/\Below w.heap.size w w':=by
 obtain ⟨hB,xV,qC⟩:=aG hx (show 0<1 by omega) (x:=⟨xk,xn,xs⟩) rfl
 go_enter Tryz.func181,Tryz.ntmps181
 go_upto_region 20 with (fail)
 obtain ⟨w0,hw0,Z,N0,N1,N2,N3,N4, -,hb0⟩:=eG w 2 kd nu ar st nm
 rw[<-hw0]
 clear hw0
 have hn0:w.heap.size<w0.heap.size:=Nat.lt_trans (show w.heap.size<w.heap.size+1 by omega) Z.out.lt
 have hB0:b<w0.heap.size:=by have:=hb0.size;omega
 have hne:¬b=w.heap.size+1:=by omega
 obtain ⟨x0,x1,x2⟩:=V3.below xV hb0 hB
 simp only[Nat.zero_mul,Nat.one_mul,Nat.add_zero,Nat.reduceMul]at x0 x1 x2
 obtain ⟨z0,z1,z2,f0,f1,f2,_⟩:=Z.out
 go_wp2
 go_loop [11] (λi=> ∃k:Nat,k<=1/\i=.int .i64 k/\(0<k->¬xk=0)) (λi=>1-(intOf i).toNat)
 case atStart=>exact ⟨0,by omega,rfl,λh=>absurd h (by omega)⟩
 case round=>
  obtain ⟨k,hk,rfl,h0⟩:=hrel
  obtain rfl|rfl:k=0\/k=1:=by omega
  ·clear h0
   by_cases hkx:xk=0
   ·have HV:Hid (eO zz ⟨2,⟨kd,nu,st⟩,nm,ar⟩ ([⟨xk,xn,xs⟩]:List Val)=aW):=hide (by simp only[eO,xP,Int.reduceEq,if_false];rw[if_pos hkx])
    have q:(xk==0)=true:=by simpa using hkx
    clear hkx
    go_wp2
    refine bodyPost_ret (v:=.agg (Val.cells aW).toArray) (dL (cs:=Val.cells aW) rfl _ _ (w.heap.size+1) _ rfl (bC Z.out.c0 Z.out.c1 Z.out.c2) Tryz.underlying74 rfl (by kernel_rfl)) rfl ⟨by rw[HV.out],au hb0 (by omega) _ _ _⟩
   ·have q:(xk==0)=false:=by simpa using hkx
    go_wp2
    go_round
    case rel=>exact ⟨1,by omega,by go_num,λ_=>hkx⟩
    case measure=>simp[intOf]
  ·have hkx:=h0 (by omega)
   clear h0
   have HV:Hid (eO zz ⟨2,⟨kd,nu,st⟩,nm,ar⟩ ([⟨xk,xn,xs⟩]:List Val)=dM (xn==0)):=hide (by simp only[eO,xP,Int.reduceEq,if_false];rw[if_neg hkx];(try simp only[Int.reduceEq,if_false,if_true]))
   clear hkx
   go_wp2_with fail
   refine (j3 (xn==0) _).mono ?_
   rintro e w3 ⟨rfl,hb3⟩
   have Z:=hide (Z.out.below hb3)
   have hb0:=aa hb0 hb3
   clear hb3
   obtain ⟨z0,z1,z2,f0,f1,f2,_⟩:=Z.out
   generalize hbv:dM (xn==0)=bv
   obtain ⟨bk,bn,bs⟩:=bv
   have fo:=hide hbv
   clear hbv
   simp only[Val.cells]
   go_wp2
   refine gH rfl Z.out rfl rfl ⟨by rw[HV.out,fo.out],au hb0 (by omega) _ _ _⟩
theorem X6 (zz:List Zone)(kd nu ar:Int)(st nm:ByteArray)(w:World)(b off:Nat)(c:Nat)(xk xn:Int)(xs:ByteArray)(hx:In w (some ⟨b,off,none⟩) 1 c ([⟨xk,xn,xs⟩]:List Val))(hx30:az xn)(A1:Option Addr)(n1 c1:Nat)(A3:Option Addr)(n3 c3:Nat)(A2:Option Addr)(n2 c2:Nat)(hz:In w A2 n2 c2 zz):
  Calls Tryz.prog 181 #[.agg #[.int .i64 3,.int .i64 kd,.int .i64 nu,.string st,.string nm,.int .i64 ar],.slice (some ⟨b,off,none⟩) 1 c,.slice A1 n1 c1,.slice A3 n3 c3,.slice A2 n2 c2] w λe w'=>e=.returned (.agg (eO zz ⟨3,⟨kd,nu,st⟩,nm,ar⟩ ([⟨xk,xn,xs⟩]:List Val)).cells.toArray)/\Below w.heap.size w w':=by
 obtain ⟨hB,xV,qC⟩:=aG hx (show 0<1 by omega) (x:=⟨xk,xn,xs⟩) rfl
 go_enter Tryz.func181,Tryz.ntmps181
 go_upto_region 20 with (fail)
 obtain ⟨w0,hw0,Z,N0,N1,N2,N3,N4, -,hb0⟩:=eG w 3 kd nu ar st nm
 rw[<-hw0]
 clear hw0
 have hn0:w.heap.size<w0.heap.size:=Nat.lt_trans (show w.heap.size<w.heap.size+1 by omega) Z.out.lt
 have hB0:b<w0.heap.size:=by have:=hb0.size;omega
 have hne:¬b=w.heap.size+1:=by omega
 obtain ⟨x0,x1,x2⟩:=V3.below xV hb0 hB
 simp only[Nat.zero_mul,Nat.one_mul,Nat.add_zero,Nat.reduceMul]at x0 x1 x2
 obtain ⟨z0,z1,z2,f0,f1,f2,_⟩:=Z.out
 go_wp2
 go_loop [11] (λi=> ∃k:Nat,k<=1/\i=.int .i64 k/\(0<k->¬xk=0)) (λi=>1-(intOf i).toNat)
 case atStart=>exact ⟨0,by omega,rfl,λh=>absurd h (by omega)⟩
 case round=>
  obtain ⟨k,hk,rfl,h0⟩:=hrel
  obtain rfl|rfl:k=0\/k=1:=by omega
  ·clear h0
   by_cases hkx:xk=0
   ·have HV:Hid (eO zz ⟨3,⟨kd,nu,st⟩,nm,ar⟩ ([⟨xk,xn,xs⟩]:List Val)=aW):=hide (by simp only[eO,xP,Int.reduceEq,if_false];rw[if_pos hkx])
    have q:(xk==0)=true:=by simpa using hkx
    clear hkx
    go_wp2
    refine bodyPost_ret (v:=.agg (Val.cells aW).toArray) (dL (cs:=Val.cells aW) rfl _ _ (w.heap.size+1) _ rfl (bC Z.out.c0 Z.out.c1 Z.out.c2) Tryz.underlying74 rfl (by kernel_rfl)) rfl ⟨by rw[HV.out],au hb0 (by omega) _ _ _⟩
   ·have q:(xk==0)=false:=by simpa using hkx
    go_wp2
    go_round
    case rel=>exact ⟨1,by omega,by go_num,λ_=>hkx⟩
    case measure=>simp[intOf]
  ·have hkx:=h0 (by omega)
   clear h0
   have HV:Hid (eO zz ⟨3,⟨kd,nu,st⟩,nm,ar⟩ ([⟨xk,xn,xs⟩]:List Val)=ed (iD 0 xn).1 (iD 0 xn).2):=hide (by simp only[eO,xP,Int.reduceEq,if_false];rw[if_neg hkx];(try simp only[Int.reduceEq,if_false,if_true]))
   clear hkx
   go_wp2_with fail
   refine (Dl 0 xn (by unfold az;omega) hx30 _).mono ?_
   rintro e w' ⟨rfl,rfl⟩
   go_wp2_with fail
   refine (kF _ _ _).mono ?_
   rintro e w3 ⟨rfl,hb3⟩
   have Z:=hide (Z.out.below hb3)
   have hb0:=aa hb0 hb3
   clear hb3
   obtain ⟨z0,z1,z2,f0,f1,f2,_⟩:=Z.out
   generalize hbv:ed (iD 0 xn).1 (iD 0 xn).2=bv
   obtain ⟨bk,bn,bs⟩:=bv
   have fo:=hide hbv
   clear hbv
   simp only[Val.cells]
   go_wp2
   refine gH rfl Z.out rfl rfl ⟨by rw[HV.out,fo.out],au hb0 (by omega) _ _ _⟩
theorem U3 (zz:List Zone)(kd nu ar:Int)(st nm:ByteArray)(w:World)(b off:Nat)(c:Nat)(xk xn:Int)(xs:ByteArray)(hx:In w (some ⟨b,off,none⟩) 1 c ([⟨xk,xn,xs⟩]:List Val))(A1:Option Addr)(n1 c1:Nat)(A3:Option Addr)(n3 c3:Nat)(A2:Option Addr)(n2 c2:Nat)(hz:In w A2 n2 c2 zz):
  Calls Tryz.prog 181 #[.agg #[.int .i64 19,.int .i64 kd,.int .i64 nu,.string st,.string nm,.int .i64 ar],.slice (some ⟨b,off,none⟩) 1 c,.slice A1 n1 c1,.slice A3 n3 c3,.slice A2 n2 c2] w λe w'=>e=.returned (.agg (eO zz ⟨19,⟨kd,nu,st⟩,nm,ar⟩ ([⟨xk,xn,xs⟩]:List Val)).cells.toArray)/\Below w.heap.size w w':=by
 obtain ⟨hB,xV,qC⟩:=aG hx (show 0<1 by omega) (x:=⟨xk,xn,xs⟩) rfl
 go_enter Tryz.func181,Tryz.ntmps181
 go_upto_region 20 with (fail)
 obtain ⟨w0,hw0,Z,N0,N1,N2,N3,N4, -,hb0⟩:=eG w 19 kd nu ar st nm
 rw[<-hw0]
 clear hw0
 have hn0:w.heap.size<w0.heap.size:=Nat.lt_trans (show w.heap.size<w.heap.size+1 by omega) Z.out.lt
 have hB0:b<w0.heap.size:=by have:=hb0.size;omega
 have hne:¬b=w.heap.size+1:=by omega
 obtain ⟨x0,x1,x2⟩:=V3.below xV hb0 hB
 simp only[Nat.zero_mul,Nat.one_mul,Nat.add_zero,Nat.reduceMul]at x0 x1 x2
 obtain ⟨z0,z1,z2,f0,f1,f2,_⟩:=Z.out
 go_wp2
 go_loop [11] (λi=> ∃k:Nat,k<=1/\i=.int .i64 k/\(0<k->¬xk=0)) (λi=>1-(intOf i).toNat)
 case atStart=>exact ⟨0,by omega,rfl,λh=>absurd h (by omega)⟩
 case round=>
  obtain ⟨k,hk,rfl,h0⟩:=hrel
  obtain rfl|rfl:k=0\/k=1:=by omega
  ·clear h0
   by_cases hkx:xk=0
   ·have HV:Hid (eO zz ⟨19,⟨kd,nu,st⟩,nm,ar⟩ ([⟨xk,xn,xs⟩]:List Val)=aW):=hide (by simp only[eO,xP,Int.reduceEq,if_false];rw[if_pos hkx])
    have q:(xk==0)=true:=by simpa using hkx
    clear hkx
    go_wp2
    refine bodyPost_ret (v:=.agg (Val.cells aW).toArray) (dL (cs:=Val.cells aW) rfl _ _ (w.heap.size+1) _ rfl (bC Z.out.c0 Z.out.c1 Z.out.c2) Tryz.underlying74 rfl (by kernel_rfl)) rfl ⟨by rw[HV.out],au hb0 (by omega) _ _ _⟩
   ·have q:(xk==0)=false:=by simpa using hkx
    go_wp2
    go_round
    case rel=>exact ⟨1,by omega,by go_num,λ_=>hkx⟩
    case measure=>simp[intOf]
  ·have hkx:=h0 (by omega)
   clear h0
   have HV:Hid (eO zz ⟨19,⟨kd,nu,st⟩,nm,ar⟩ ([⟨xk,xn,xs⟩]:List Val)=ed xs.size true):=hide (by simp only[eO,xP,Int.reduceEq,if_false];rw[if_neg hkx];(try simp only[Int.reduceEq,if_false,if_true]))
   clear hkx
   go_wp2_with fail
   refine (kF xs.size true _).mono ?_
   rintro e w3 ⟨rfl,hb3⟩
   have Z:=hide (Z.out.below hb3)
   have hb0:=aa hb0 hb3
   clear hb3
   obtain ⟨z0,z1,z2,f0,f1,f2,_⟩:=Z.out
   generalize hbv:ed xs.size true=bv
   obtain ⟨bk,bn,bs⟩:=bv
   have fo:=hide hbv
   clear hbv
   simp only[Val.cells]
   go_wp2
   refine gH rfl Z.out rfl rfl ⟨by rw[HV.out,fo.out],au hb0 (by omega) _ _ _⟩
theorem U4 (zz:List Zone)(kd nu ar:Int)(st nm:ByteArray)(w:World)(b off:Nat)(c:Nat)(xk xn:Int)(xs:ByteArray)(hx:In w (some ⟨b,off,none⟩) 1 c ([⟨xk,xn,xs⟩]:List Val))(A1:Option Addr)(n1 c1:Nat)(A3:Option Addr)(n3 c3:Nat)(A2:Option Addr)(n2 c2:Nat)(hz:In w A2 n2 c2 zz):
  Calls Tryz.prog 181 #[.agg #[.int .i64 20,.int .i64 kd,.int .i64 nu,.string st,.string nm,.int .i64 ar],.slice (some ⟨b,off,none⟩) 1 c,.slice A1 n1 c1,.slice A3 n3 c3,.slice A2 n2 c2] w λe w'=>e=.returned (.agg (eO zz ⟨20,⟨kd,nu,st⟩,nm,ar⟩ ([⟨xk,xn,xs⟩]:List Val)).cells.toArray)/\Below w.heap.size w w':=by
 obtain ⟨hB,xV,qC⟩:=aG hx (show 0<1 by omega) (x:=⟨xk,xn,xs⟩) rfl
 go_enter Tryz.func181,Tryz.ntmps181
 go_upto_region 20 with (fail)
 obtain ⟨w0,hw0,Z,N0,N1,N2,N3,N4, -,hb0⟩:=eG w 20 kd nu ar st nm
 rw[<-hw0]
 clear hw0
 have hn0:w.heap.size<w0.heap.size:=Nat.lt_trans (show w.heap.size<w.heap.size+1 by omega) Z.out.lt
 have hB0:b<w0.heap.size:=by have:=hb0.size;omega
 have hne:¬b=w.heap.size+1:=by omega
 obtain ⟨x0,x1,x2⟩:=V3.below xV hb0 hB
 simp only[Nat.zero_mul,Nat.one_mul,Nat.add_zero,Nat.reduceMul]at x0 x1 x2
 obtain ⟨z0,z1,z2,f0,f1,f2,_⟩:=Z.out
 go_wp2
 go_loop [11] (λi=> ∃k:Nat,k<=1/\i=.int .i64 k/\(0<k->¬xk=0)) (λi=>1-(intOf i).toNat)
 case atStart=>exact ⟨0,by omega,rfl,λh=>absurd h (by omega)⟩
 case round=>
  obtain ⟨k,hk,rfl,h0⟩:=hrel
  obtain rfl|rfl:k=0\/k=1:=by omega
  ·clear h0
   by_cases hkx:xk=0
   ·have HV:Hid (eO zz ⟨20,⟨kd,nu,st⟩,nm,ar⟩ ([⟨xk,xn,xs⟩]:List Val)=aW):=hide (by simp only[eO,xP,Int.reduceEq,if_false];rw[if_pos hkx])
    have q:(xk==0)=true:=by simpa using hkx
    clear hkx
    go_wp2
    refine bodyPost_ret (v:=.agg (Val.cells aW).toArray) (dL (cs:=Val.cells aW) rfl _ _ (w.heap.size+1) _ rfl (bC Z.out.c0 Z.out.c1 Z.out.c2) Tryz.underlying74 rfl (by kernel_rfl)) rfl ⟨by rw[HV.out],au hb0 (by omega) _ _ _⟩
   ·have q:(xk==0)=false:=by simpa using hkx
    go_wp2
    go_round
    case rel=>exact ⟨1,by omega,by go_num,λ_=>hkx⟩
    case measure=>simp[intOf]
  ·have hkx:=h0 (by omega)
   clear h0
   have HV:Hid (eO zz ⟨20,⟨kd,nu,st⟩,nm,ar⟩ ([⟨xk,xn,xs⟩]:List Val)=ed (nU (dn zz nm) xn).1 true):=hide (by simp only[eO,xP,Int.reduceEq,if_false];rw[if_neg hkx];(try simp only[Int.reduceEq,if_false,if_true]))
   clear hkx
   go_wp2_with fail
   refine (nY _ _ _ _ zz (hz.below hb0) nm).mono ?_
   rintro e w1 ⟨⟨A4,n4,c4,rfl,yY,ho3⟩,hb1⟩
   have x0:=ah hb1 hB0 x0
   have x1:=ah hb1 hB0 x1
   have x2:=ah hb1 hB0 x2
   have hB0:b<w1.heap.size:=Nat.lt_of_lt_of_le hB0 hb1.size
   have Z:=hide (Z.out.below hb1)
   have hb0:=aa hb0 hb1
   have hzl:=Z.out.lt
   clear hb1
   go_wp2
   obtain ⟨w2,hw2⟩: ∃w2,w2=w1.alloc (.cells #[.string (dn zz nm).name,.int .i64 (dn zz nm).offset,.slice A4 n4 c4] 101):=⟨_,rfl⟩
   have d0:w2.cell? ⟨w1.heap.size,0,none⟩=some (.string (dn zz nm).name):=by rw[hw2];simp[go_sem]
   have d1:w2.cell? ⟨w1.heap.size,1,none⟩=some (.int .i64 (dn zz nm).offset):=by rw[hw2];simp[go_sem]
   have d2:w2.cell? ⟨w1.heap.size,2,none⟩=some (.slice A4 n4 c4):=by rw[hw2];simp[go_sem]
   have hb2:Below w1.heap.size w1 w2:=by rw[hw2];exact af
   rw[<-hw2]
   clear hw2
   have x0:=ah hb2 hB0 x0
   have x1:=ah hb2 hB0 x1
   have x2:=ah hb2 hB0 x2
   have hB0:b<w2.heap.size:=Nat.lt_of_lt_of_le hB0 hb2.size
   have Z:=hide (Z.out.below hb2)
   have Rn:=yY.below hb2
   have hb0:=aa hb0 hb2
   have hl2:w1.heap.size<w2.heap.size:=lt_of_cell d0
   clear hb2 yY
   go_region_held3 (λV=>V.cell? ⟨b,off+1,none⟩=some (.int .i64 xn)/\V.cell? ⟨w1.heap.size,0,none⟩=some (.string (dn zz nm).name)/\V.cell? ⟨w1.heap.size,1,none⟩=some (.int .i64 (dn zz nm).offset)/\V.cell? ⟨w1.heap.size,2,none⟩=some (.slice A4 n4 c4)) (first|exact ⟨x1,d0,d1,d2⟩|exact ⟨x1',d0',d1',d2'⟩) (first|(go_at_call 224;refine (Oh _ A4 n4 c4 (dn zz nm) (Rn.below (Below.refl _ _).drew) ho3 xn).mono ?_;rintro e w3 ⟨rfl,hb3⟩;have hq:=ag hb3;have x1':=ah hq hB0 x1;have d0':=ah hq hl2 d0;have d1':=ah hq hl2 d1;have d2':=ah hq hl2 d2;have Z:=hide (Z.out.below hq);have hb0:=aa hb0 hq;clear hb3))
   go_wp2_with fail
   refine (kF (nU (dn zz nm) xn).1 true _).mono ?_
   rintro e w3 ⟨rfl,hb3⟩
   have Z:=hide (Z.out.below hb3)
   have hb0:=aa hb0 hb3
   clear hb3
   obtain ⟨z0,z1,z2,f0,f1,f2,_⟩:=Z.out
   generalize hbv:ed (nU (dn zz nm) xn).1 true=bv
   obtain ⟨bk,bn,bs⟩:=bv
   have fo:=hide hbv
   clear hbv
   simp only[Val.cells]
   go_wp2
   refine gH rfl Z.out rfl rfl ⟨by rw[HV.out,fo.out],au hb0 (by omega) _ _ _⟩
theorem RJ (op:Int)(zz:List Zone)(kd nu ar:Int)(st nm:ByteArray)(w:World)(b off:Nat)(c:Nat)(xk xn yk yn:Int)(xs ys:ByteArray)(hx:In w (some ⟨b,off,none⟩) 2 c ([⟨xk,xn,xs⟩,⟨yk,yn,ys⟩]:List Val))(hop:4<=op/\op<=13)(hx30:az xn)(hy30:az yn)(hsx:xs.size<=64)(hsy:ys.size<=64)(A1:Option Addr)(n1 c1:Nat)(A3:Option Addr)(n3 c3:Nat)(A2:Option Addr)(n2 c2:Nat)(hz:In w A2 n2 c2 zz):
  Calls Tryz.prog 181 #[.agg #[.int .i64 op,.int .i64 kd,.int .i64 nu,.string st,.string nm,.int .i64 ar],.slice (some ⟨b,off,none⟩) 2 c,.slice A1 n1 c1,.slice A3 n3 c3,.slice A2 n2 c2] w λe w'=>e=.returned (.agg (eO zz ⟨op,⟨kd,nu,st⟩,nm,ar⟩ ([⟨xk,xn,xs⟩,⟨yk,yn,ys⟩]:List Val)).cells.toArray)/\Below w.heap.size w w':=by
 obtain ⟨hB,xV,qC⟩:=aG hx (show 0<2 by omega) (x:=⟨xk,xn,xs⟩) rfl
 obtain ⟨hB,yV,xx⟩:=aG hx (show 1<2 by omega) (x:=⟨yk,yn,ys⟩) rfl
 have e0:(op==0)=false:=by simp;omega
 have e1:(op==1)=false:=by simp;omega
 have e2:(op==2)=false:=by simp;omega
 have e3:(op==3)=false:=by simp;omega
 have e14:(op==14)=false:=by simp;omega
 have e15:(op==15)=false:=by simp;omega
 have e16:(op==16)=false:=by simp;omega
 have e17:(op==17)=false:=by simp;omega
 have e18:(op==18)=false:=by simp;omega
 have e19:(op==19)=false:=by simp;omega
 have e20:(op==20)=false:=by simp;omega
 have Ad:=hide hop
 clear hop
 go_enter Tryz.func181,Tryz.ntmps181
 go_upto_region 20 with (fail)
 obtain ⟨w0,hw0,Z,N0,N1,N2,N3,N4, -,hb0⟩:=eG w op kd nu ar st nm
 rw[<-hw0]
 clear hw0
 have hn0:w.heap.size<w0.heap.size:=Nat.lt_trans (show w.heap.size<w.heap.size+1 by omega) Z.out.lt
 have hB0:b<w0.heap.size:=by have:=hb0.size;omega
 have hne:¬b=w.heap.size+1:=by omega
 obtain ⟨x0,x1,x2⟩:=V3.below xV hb0 hB
 obtain ⟨y0,y1,y2⟩:=V3.below yV hb0 hB
 simp only[Nat.zero_mul,Nat.one_mul,Nat.add_zero,Nat.reduceMul]at x0 x1 x2 y0 y1 y2
 obtain ⟨z0,z1,z2,f0,f1,f2,_⟩:=Z.out
 have hnn:¬w.heap.size=w.heap.size+1:=by omega
 go_wp2
 go_loop [11] (λi=> ∃k:Nat,k<=2/\i=.int .i64 k/\(0<k->¬xk=0)/\(1<k->¬yk=0)) (λi=>2-(intOf i).toNat)
 case atStart=>exact ⟨0,by omega,rfl,λh=>absurd h (by omega),λh=>absurd h (by omega)⟩
 case round=>
  obtain ⟨k,hk,rfl,h0,h1⟩:=hrel
  obtain rfl|rfl|rfl:k=0\/k=1\/k=2:=by omega
  ·clear h0 h1
   by_cases hkx:xk=0
   ·have HV:Hid (eO zz ⟨op,⟨kd,nu,st⟩,nm,ar⟩ ([⟨xk,xn,xs⟩,⟨yk,yn,ys⟩]:List Val)=aW):=hide (by simp only[eO];rw[if_neg (by have:=Ad.out;omega),if_neg (by have:=Ad.out;omega),if_neg (by have:=Ad.out;omega),if_pos (.inl hkx)])
    have q:(xk==0)=true:=by simpa using hkx
    clear hkx
    go_wp2
    refine bodyPost_ret (v:=.agg (Val.cells aW).toArray) (dL (cs:=Val.cells aW) rfl _ _ (w.heap.size+1) _ rfl (bC Z.out.c0 Z.out.c1 Z.out.c2) Tryz.underlying74 rfl (by kernel_rfl)) rfl ⟨by rw[HV.out],au hb0 (by omega) _ _ _⟩
   ·have q:(xk==0)=false:=by simpa using hkx
    go_wp2
    go_round
    case rel=>exact ⟨1,by omega,by go_num,λ_=>hkx,λh=>absurd h (by omega)⟩
    case measure=>simp[intOf]
  ·have hx0:=hide (h0 (by omega))
   clear h0 h1
   by_cases hkx:yk=0
   ·have HV:Hid (eO zz ⟨op,⟨kd,nu,st⟩,nm,ar⟩ ([⟨xk,xn,xs⟩,⟨yk,yn,ys⟩]:List Val)=aW):=hide (by simp only[eO];rw[if_neg (by have:=Ad.out;omega),if_neg (by have:=Ad.out;omega),if_neg (by have:=Ad.out;omega),if_pos (.inr hkx)])
    have q:(yk==0)=true:=by simpa using hkx
    clear hkx
    go_wp2
    refine bodyPost_ret (v:=.agg (Val.cells aW).toArray) (dL (cs:=Val.cells aW) rfl _ _ (w.heap.size+1) _ rfl (bC Z.out.c0 Z.out.c1 Z.out.c2) Tryz.underlying74 rfl (by kernel_rfl)) rfl ⟨by rw[HV.out],au hb0 (by omega) _ _ _⟩
   ·have q:(yk==0)=false:=by simpa using hkx
    go_wp2
    go_round
    case rel=>exact ⟨2,by omega,by go_num,λ_=>hx0.out,λ_=>hkx⟩
    case measure=>simp[intOf]
  ·have HV:Hid (eO zz ⟨op,⟨kd,nu,st⟩,nm,ar⟩ ([⟨xk,xn,xs⟩,⟨yk,yn,ys⟩]:List Val)=dY op ⟨xk,xn,xs⟩ ⟨yk,yn,ys⟩):=hide (by simp only[eO];rw[if_neg (by have:=Ad.out;omega),if_neg (by have:=Ad.out;omega),if_neg (by have:=Ad.out;omega),if_neg (by rintro (h|h);exact h0 (by omega) h;exact h1 (by omega) h)])
   clear h0 h1
   go_upto_region 36 with (fail)
   go_region_held3 (λV=>V.cell? ⟨b,off,none⟩=some (.int .i64 xk)/\V.cell? ⟨b,off+1,none⟩=some (.int .i64 xn)/\V.cell? ⟨b,off+2,none⟩=some (.string xs)/\V.cell? ⟨b,off+3,none⟩=some (.int .i64 yk)/\V.cell? ⟨b,off+3+1,none⟩=some (.int .i64 yn)/\V.cell? ⟨b,off+3+2,none⟩=some (.string ys)/\V.cell? ⟨w.heap.size,0,none⟩=some (.int .i64 op)) (first|exact ⟨x0,x1,x2,y0,y1,y2,N0⟩|exact ⟨x0',x1',x2',y0',y1',y2',N0'⟩|exact ⟨ae (ae (ae x0' (.inl hne)) (.inl hne)) (.inl hne),ae (ae (ae x1' (.inl hne)) (.inl hne)) (.inl hne),ae (ae (ae x2' (.inl hne)) (.inl hne)) (.inl hne),ae (ae (ae y0' (.inl hne)) (.inl hne)) (.inl hne),ae (ae (ae y1' (.inl hne)) (.inl hne)) (.inl hne),ae (ae (ae y2' (.inl hne)) (.inl hne)) (.inl hne),ae (ae (ae N0' (.inl hnn)) (.inl hnn)) (.inl hnn)⟩) (first|(go_at_call 225;refine (Lf op Ad.out ⟨xk,xn,xs⟩ ⟨yk,yn,ys⟩ hx30 hy30 hsx hsy _).mono ?_;rintro e w1 ⟨rfl,hb1⟩;have hq:=ag hb1;have x0':=ah hq hB0 x0;have x1':=ah hq hB0 x1;have x2':=ah hq hB0 x2;have y0':=ah hq hB0 y0;have y1':=ah hq hB0 y1;have y2':=ah hq hB0 y2;have N0':=ah hq hn0 N0;have Z:=hide (Z.out.below hq);have hb0:=aa hb0 hq;clear hb1;obtain ⟨z0,z1,z2,f0,f1,f2,_⟩:=Z.out;generalize hbv:dY op ⟨xk,xn,xs⟩ ⟨yk,yn,ys⟩=bv;obtain ⟨bk,bn,bs⟩:=bv;have fo:=hide hbv;clear hbv;simp only[Val.cells]))
   go_wp2
   refine gH rfl Z.out rfl rfl ⟨by rw[HV.out,fo.out],au hb0 (by omega) _ _ _⟩
theorem X4 (kd nu ar:Int)(st nm:ByteArray)(w:World)(A:Option Addr)(m c:Nat)(A1:Option Addr)(n1 c1:Nat)(cols:List Col)(hc:In w A1 n1 c1 cols)(A3:Option Addr)(n3 c3:Nat)(row:List Val)(hr:In w A3 n3 c3 row)(v2:Value)(hi0:0<=index cols nm)(hi1:index cols nm<n3):
  Calls Tryz.prog 181 #[.agg #[.int .i64 1,.int .i64 kd,.int .i64 nu,.string st,.string nm,.int .i64 ar],.slice A m c,.slice A1 n1 c1,.slice A3 n3 c3,v2] w λe w'=>e=.returned (.agg (row.getD (index cols nm).toNat aW).cells.toArray)/\Below w.heap.size w w':=by
 have h64:=hc.le
 have Yt:=hr.le
 obtain ⟨j,hj⟩: ∃j:Nat,index cols nm=(j:Int):=⟨(index cols nm).toNat,by omega⟩
 obtain ⟨b',off',⟨yk,yn,ys⟩,rfl,hB',HY,v0,v1,RG,xx⟩:=hr.val (show j<n3 by omega)
 have HV:Hid (row.getD (index cols nm).toNat aW=⟨yk,yn,ys⟩):=hide (by rw[hj,Int.toNat_natCast,List.getD,(dS HY.out).1];rfl)
 have k0:(0:Int)<=(j:Int):=by omega
 have k1:(j:Int)<(n3:Int):=by omega
 go_enter Tryz.func181,Tryz.ntmps181
 go_wp2_with fail
 obtain ⟨w0,hw0,Z,N0,N1,N2,N3,N4, -,hb0⟩:=eG w 1 kd nu ar st nm
 rw[<-hw0]
 clear hw0
 have hn0:w.heap.size<w0.heap.size:=Nat.lt_trans (show w.heap.size<w.heap.size+1 by omega) Z.out.lt
 refine (oF _ _ _ _ cols (hc.below hb0) nm).mono ?_
 rintro e w1 ⟨rfl,rfl⟩
 rw[hj]
 clear hi0 hi1 hj
 have v0:=ah hb0 hB' v0
 have v1:=ah hb0 hB' v1
 have v2'':=ah hb0 hB' RG
 obtain ⟨z0,z1,z2,f0,f1,f2,_⟩:=Z.out
 go_wp2
 refine gH rfl Z.out rfl rfl ⟨by rw[HV.out],au hb0 (by omega) _ _ _⟩
theorem sG (zz:List Zone)(x:Node)(hsh:shaped x=true)(h21:x.op≠21)(m:Nat)(hm:arity x.op x.arity=(m:Int))(w:World)(A:Option Addr)(c:Nat)(xs:List Val)(hx:In w A m c xs)(hv: ∀v∈xs,valid v=true)(A1:Option Addr)(n1 c1:Nat)(cols:List Col)(hc:In w A1 n1 c1 cols)(A3:Option Addr)(n3 c3:Nat)(row:List Val)(hr:In w A3 n3 c3 row)(hi:x.op=1->0<=index cols x.name/\index cols x.name<n3)(A2:Option Addr)(n2 c2:Nat)(hz:In w A2 n2 c2 zz):
  Calls Tryz.prog 181 #[.agg x.cells.toArray,.slice A m c,.slice A1 n1 c1,.slice A3 n3 c3,.slice A2 n2 c2] w λe w'=>e=.returned (.agg (je cols row zz x xs).cells.toArray)/\Below w.heap.size w w':=by
 have hop:=λh1=>mq hsh h1 h21
 obtain ⟨op,⟨kd,nu,st⟩,nm,ar⟩:=x
 simp only at hm hop hi h21
 clear hsh
 by_cases h1:op=1
 ·subst h1
  exact X4 kd nu ar st nm w A m c A1 n1 c1 cols hc A3 n3 c3 row hr _ (hi rfl).1 (hi rfl).2
 simp only[je]
 rw[if_neg h1]
 rcases hop h1 with rfl|⟨hl,hh⟩
 ·have e:m=0:=by simp[arity]at hm;omega
  subst e
  obtain rfl:=hx.len0
  exact X3 zz kd nu ar st nm w A c A1 n1 c1 A3 n3 c3 A2 n2 c2 hz
 by_cases hu:op=2\/op=3\/op=16\/op=19\/op=20
 ·have e:m=1:=by rw[arity,if_neg (by omega),if_pos (by omega)]at hm;omega
  subst e
  obtain ⟨⟨xk,xn,xs⟩,b,off,rfl,rfl⟩:=hx.len1
  have v1:=hv ⟨xk,xn,xs⟩ (by simp)
  rcases hu with rfl|rfl|rfl|rfl|rfl
  ·exact X5 zz kd nu ar st nm w b off c xk xn xs hx A1 n1 c1 A3 n3 c3 A2 n2 c2 hz
  ·exact X6 zz kd nu ar st nm w b off c xk xn xs hx (mD v1) A1 n1 c1 A3 n3 c3 A2 n2 c2 hz
  ·exact U2 zz kd nu ar st nm w b off c xk xn xs hx A1 n1 c1 A3 n3 c3 A2 n2 c2 hz
  ·exact U3 zz kd nu ar st nm w b off c xk xn xs hx A1 n1 c1 A3 n3 c3 A2 n2 c2 hz
  ·exact U4 zz kd nu ar st nm w b off c xk xn xs hx A1 n1 c1 A3 n3 c3 A2 n2 c2 hz
 by_cases Ig:op=17
 ·subst Ig
  have e:m=3:=by simp[arity]at hm;omega
  subst e
  obtain ⟨⟨xk,xn,xs⟩,⟨yk,yn,ys⟩,⟨zk,zn,zs⟩,b,off,rfl,rfl⟩:=hx.len3
  cases q:(truth ⟨xk,xn,xs⟩==1)
  ·exact RH zz kd nu ar st nm w b off c xk xn yk yn zk zn xs ys zs hx q A1 n1 c1 A3 n3 c3 A2 n2 c2 hz
  ·exact RI zz kd nu ar st nm w b off c xk xn yk yn zk zn xs ys zs hx q A1 n1 c1 A3 n3 c3 A2 n2 c2 hz
 have e:m=2:=by rw[arity,if_neg (by omega),if_neg (by omega),if_neg Ig,if_neg h21,if_pos (by omega)]at hm;omega
 subst e
 obtain ⟨⟨xk,xn,xs⟩,⟨yk,yn,ys⟩,b,off,rfl,rfl⟩:=hx.len2
 have v1:=hv ⟨xk,xn,xs⟩ (by simp)
 have v2:=hv ⟨yk,yn,ys⟩ (by simp)
 by_cases Nk:op=14
 ·subst Nk
  exact UZ zz kd nu ar st nm w b off c xk xn yk yn xs ys hx A1 n1 c1 A3 n3 c3 A2 n2 c2 hz
 by_cases Nl:op=15
 ·subst Nl
  exact U1 zz kd nu ar st nm w b off c xk xn yk yn xs ys hx A1 n1 c1 A3 n3 c3 A2 n2 c2 hz
 by_cases h18:op=18
 ·subst h18
  cases q:(xk==0)
  ·exact Qe zz kd nu ar st nm w b off c xk xn yk yn xs ys hx A1 n1 c1 A3 n3 c3 A2 n2 c2 hz
  ·exact Qe zz kd nu ar st nm w b off c xk xn yk yn xs ys hx A1 n1 c1 A3 n3 c3 A2 n2 c2 hz
 exact RJ op zz kd nu ar st nm w b off c xk xn yk yn xs ys hx (by omega) (mD v1) (mD v2) (mE v1) (mE v2) A1 n1 c1 A3 n3 c3 A2 n2 c2 hz
end Go.Proofs.YtggejcekmehocaaGreatDoor
