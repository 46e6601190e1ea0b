/-
  scalar.special and scalar.apply: with their operands they return opV. (Printed by gen_app.py.)
-/
import Derived.Test.YtggejcekmehocaaGreatDoorGah
import Derived.Test.YtggejcekmehocaaGreatDoorGai
import Derived.Test.YtggejcekmehocaaGreatDoorGau
namespace Go.Proofs.YtggejcekmehocaaGreatDoor
set_option maxHeartbeats 2000000
set_option maxRecDepth 100000
open Go.RowKit
set_option linter.unusedSimpArgs false
set_option linter.unusedVariables false
section
variable {P:Program}
theorem results_cells2 {fn:Func}{p q:Tmp}{ty:TypeId}(h:fn.results= #[.cell p ty,.tmp q])(tmps:Array Value)(w:World)(g:Nat)(cs:List Value)(d:TypeDesc)(u:Value)(hp:tmps.getD p undef=.pointer (some ⟨g,0,none⟩))(hq:tmps.getD q undef=u)(hc: ∀j v,cs[j]?=some v->w.cell? ⟨g,j,none⟩=some v)(hu:P.underlying ty=some d)(hd:(match d with| .struct _| .array _ _=>true| _=>false)=true)(hi:(P.info? ty).map (·.size)=some cs.length):
  (results fn tmps).run P w=.ok (.tuple #[.agg cs.toArray,u]) w:=by
 have h1:=results_cells (P:=P) (fn:={fn with results:= #[.cell p ty]}) (p:=p) (ty:=ty) rfl tmps w g cs d hp hc hu hd hi
 have hl:(loadVar ty ⟨g,0,none⟩).run P w=.ok (.agg cs.toArray) w:=by
  have hp':tmps[p]?.getD undef=.pointer (some ⟨g,0,none⟩):=by simpa using hp
  simp only[results]at h1
  simpa[hp',asAddr,Sem.run_bind,Result.andThen] using h1
 have hp':tmps[p]?.getD undef=.pointer (some ⟨g,0,none⟩):=by simpa using hp
 have hq':tmps[q]?.getD undef=u:=by simpa using hq
 simp[results,h,hp',hq',asAddr,hl]
end
theorem val_cells {w:World}{b off n c k:Nat}{xs:List Val}(h:In w (some ⟨b,off,none⟩) n c xs)(hk:k<n){x:Val}(hx:xs[k]?=some x):
  b<w.heap.size/\V3 w b (off+k*3) x/\x.ok:=by
 obtain ⟨b',off',y,e,hb,HY,f0,f1,f2,hok⟩:=h.val hk
 injection e with e
 injection e with e1 e2
 subst e1 e2
 have:=(drop_get HY.out).1
 rw[hx]at this
 injection this with this
 subst this
 exact ⟨hb,⟨f0,f1,f2⟩,hok⟩
theorem Zr.drewN {w:World}{g:Nat}(h:Zr w g)(n:Nat):Zr (w.drewN n) g:=⟨h.c0,h.c1,h.c2,h.f0,h.f1,h.f2,h.lt⟩
theorem truth_valid {x:Val}(h:valid x=true):truth x=if x.kind=1 then x.num else -1:=by
 rw[truth]
 by_cases hk:x.kind=1
 ·rw[if_pos ⟨hk,h⟩,if_pos hk]
 ·rw[if_neg (λq=>hk q.1),if_neg hk]
theorem sp_0 (zz:List Zone)(kd nu ar:Int)(st nm:ByteArray)(w:World)(A:Option Addr)(c:Nat):
  Calls Tryz.prog 143 #[.agg #[.int .i64 0,.int .i64 kd,.int .i64 nu,.string st,.string nm,.int .i64 ar],.slice A 0 c] w λe w'=>e=.returned (.tuple #[.agg (opV zz ⟨0,⟨kd,nu,st⟩,nm,ar⟩ ([]:List Val)).cells.toArray,.bool true])/\Below w.heap.size w w':=by
 have HV:Hid (opV zz ⟨0,⟨kd,nu,st⟩,nm,ar⟩ ([]:List Val)=⟨kd,nu,st⟩):=hide (by rfl)
 go_enter Tryz.func143,Tryz.ntmps143
 go_wp2
 refine bodyPost_ret (v:=.tuple #[.agg (Val.cells ⟨kd,nu,st⟩).toArray,.bool true]) (by simp[results,Tryz.results143,go_sem,Val.cells]) rfl ⟨by rw[HV.out],by first|exact below_alloc2|exact below_set3 below_alloc2 (by omega) _ _ _⟩
theorem sp_14 (zz:List Zone)(kd nu ar:Int)(st nm:ByteArray)(w:World)(b off:Nat)(c:Nat)(xk xn yk yn:Int)(xs ys:ByteArray)(hx:In w (some ⟨b,off,none⟩) 2 c ([⟨xk,xn,xs⟩,⟨yk,yn,ys⟩]:List Val)):
  Calls Tryz.prog 143 #[.agg #[.int .i64 14,.int .i64 kd,.int .i64 nu,.string st,.string nm,.int .i64 ar],.slice (some ⟨b,off,none⟩) 2 c] w λe w'=>e=.returned (.tuple #[.agg (opV zz ⟨14,⟨kd,nu,st⟩,nm,ar⟩ ([⟨xk,xn,xs⟩,⟨yk,yn,ys⟩]:List Val)).cells.toArray,.bool true])/\Below w.heap.size w w':=by
 have HV:Hid (opV zz ⟨14,⟨kd,nu,st⟩,nm,ar⟩ ([⟨xk,xn,xs⟩,⟨yk,yn,ys⟩]:List Val)=logicV ⟨xk,xn,xs⟩ ⟨yk,yn,ys⟩ 0):=hide (by rfl)
 obtain ⟨hB,xV,xok⟩:=val_cells hx (show 0<2 by omega) (x:=⟨xk,xn,xs⟩) rfl
 obtain ⟨hB,yV,yok⟩:=val_cells hx (show 1<2 by omega) (x:=⟨yk,yn,ys⟩) rfl
 go_enter Tryz.func143,Tryz.ntmps143
 go_wp2
 obtain ⟨w0,hw0,Z,N0,N1,N2,N3,N4, -,hb0⟩:=startN w 14 kd nu ar st nm
 rw[<-hw0]
 clear hw0
 have hn0:w.heap.size<w0.heap.size:=Nat.lt_trans (show w.heap.size<w.heap.size+1 by omega) Z.out.lt
 have hB0:b<w0.heap.size:=by have:=hb0.size;omega
 have hne:¬b=w.heap.size+1:=by omega
 obtain ⟨x0,x1,x2⟩:=V3.below xV hb0 hB
 obtain ⟨y0,y1,y2⟩:=V3.below yV hb0 hB
 simp only[Nat.zero_mul,Nat.one_mul,Nat.add_zero,Nat.reduceMul]at x0 x1 x2 y0 y1 y2
 go_region_held3 (λV=>V.cell? ⟨b,off,none⟩=some (.int .i64 xk)/\V.cell? ⟨b,off+1,none⟩=some (.int .i64 xn)/\V.cell? ⟨b,off+2,none⟩=some (.string xs)/\V.cell? ⟨b,off+3,none⟩=some (.int .i64 yk)/\V.cell? ⟨b,off+3+1,none⟩=some (.int .i64 yn)/\V.cell? ⟨b,off+3+2,none⟩=some (.string ys)) (first|exact ⟨x0,x1,x2,y0,y1,y2⟩|exact ⟨x0',x1',x2',y0',y1',y2'⟩|exact ⟨set_far (set_far (set_far x0' (.inl hne)) (.inl hne)) (.inl hne),set_far (set_far (set_far x1' (.inl hne)) (.inl hne)) (.inl hne),set_far (set_far (set_far x2' (.inl hne)) (.inl hne)) (.inl hne),set_far (set_far (set_far y0' (.inl hne)) (.inl hne)) (.inl hne),set_far (set_far (set_far y1' (.inl hne)) (.inl hne)) (.inl hne),set_far (set_far (set_far y2' (.inl hne)) (.inl hne)) (.inl hne)⟩) (first|(go_at_call 174;refine (logic_any ⟨xk,xn,xs⟩ ⟨yk,yn,ys⟩ xok yok 0 _).mono ?_;rintro e w1 ⟨rfl,hb1⟩;have hq:=below_undrew hb1;have x0':=bat hq hB0 x0;have x1':=bat hq hB0 x1;have x2':=bat hq hB0 x2;have y0':=bat hq hB0 y0;have y1':=bat hq hB0 y1;have y2':=bat hq hB0 y2;have Z:=hide (Z.out.below hq);have hb0:=below_trans hb0 hq;clear hb1;obtain ⟨z0,z1,z2,f0,f1,f2,_⟩:=Z.out;generalize hbv:logicV ⟨xk,xn,xs⟩ ⟨yk,yn,ys⟩ 0=bv;obtain ⟨bk,bn,bs⟩:=bv;have HBV:=hide hbv;clear hbv;simp only[Val.cells]))
 go_wp2
 refine bodyPost_ret (v:=.tuple #[.agg (Val.cells ⟨bk,bn,bs⟩).toArray,.bool true]) (results_cells2 (cs:=Val.cells ⟨bk,bn,bs⟩) rfl _ _ (w.heap.size+1) _ _ rfl rfl (set_three Z.out.c0 Z.out.c1 Z.out.c2) Tryz.underlying74 rfl (by kernel_rfl)) rfl ⟨by rw[HV.out,HBV.out],below_set3 hb0 (by omega) _ _ _⟩
theorem sp_15 (zz:List Zone)(kd nu ar:Int)(st nm:ByteArray)(w:World)(b off:Nat)(c:Nat)(xk xn yk yn:Int)(xs ys:ByteArray)(hx:In w (some ⟨b,off,none⟩) 2 c ([⟨xk,xn,xs⟩,⟨yk,yn,ys⟩]:List Val)):
  Calls Tryz.prog 143 #[.agg #[.int .i64 15,.int .i64 kd,.int .i64 nu,.string st,.string nm,.int .i64 ar],.slice (some ⟨b,off,none⟩) 2 c] w λe w'=>e=.returned (.tuple #[.agg (opV zz ⟨15,⟨kd,nu,st⟩,nm,ar⟩ ([⟨xk,xn,xs⟩,⟨yk,yn,ys⟩]:List Val)).cells.toArray,.bool true])/\Below w.heap.size w w':=by
 have HV:Hid (opV zz ⟨15,⟨kd,nu,st⟩,nm,ar⟩ ([⟨xk,xn,xs⟩,⟨yk,yn,ys⟩]:List Val)=logicV ⟨xk,xn,xs⟩ ⟨yk,yn,ys⟩ 1):=hide (by rfl)
 obtain ⟨hB,xV,xok⟩:=val_cells hx (show 0<2 by omega) (x:=⟨xk,xn,xs⟩) rfl
 obtain ⟨hB,yV,yok⟩:=val_cells hx (show 1<2 by omega) (x:=⟨yk,yn,ys⟩) rfl
 go_enter Tryz.func143,Tryz.ntmps143
 go_wp2
 obtain ⟨w0,hw0,Z,N0,N1,N2,N3,N4, -,hb0⟩:=startN w 15 kd nu ar st nm
 rw[<-hw0]
 clear hw0
 have hn0:w.heap.size<w0.heap.size:=Nat.lt_trans (show w.heap.size<w.heap.size+1 by omega) Z.out.lt
 have hB0:b<w0.heap.size:=by have:=hb0.size;omega
 have hne:¬b=w.heap.size+1:=by omega
 obtain ⟨x0,x1,x2⟩:=V3.below xV hb0 hB
 obtain ⟨y0,y1,y2⟩:=V3.below yV hb0 hB
 simp only[Nat.zero_mul,Nat.one_mul,Nat.add_zero,Nat.reduceMul]at x0 x1 x2 y0 y1 y2
 go_region_held3 (λV=>V.cell? ⟨b,off,none⟩=some (.int .i64 xk)/\V.cell? ⟨b,off+1,none⟩=some (.int .i64 xn)/\V.cell? ⟨b,off+2,none⟩=some (.string xs)/\V.cell? ⟨b,off+3,none⟩=some (.int .i64 yk)/\V.cell? ⟨b,off+3+1,none⟩=some (.int .i64 yn)/\V.cell? ⟨b,off+3+2,none⟩=some (.string ys)) (first|exact ⟨x0,x1,x2,y0,y1,y2⟩|exact ⟨x0',x1',x2',y0',y1',y2'⟩|exact ⟨set_far (set_far (set_far x0' (.inl hne)) (.inl hne)) (.inl hne),set_far (set_far (set_far x1' (.inl hne)) (.inl hne)) (.inl hne),set_far (set_far (set_far x2' (.inl hne)) (.inl hne)) (.inl hne),set_far (set_far (set_far y0' (.inl hne)) (.inl hne)) (.inl hne),set_far (set_far (set_far y1' (.inl hne)) (.inl hne)) (.inl hne),set_far (set_far (set_far y2' (.inl hne)) (.inl hne)) (.inl hne)⟩) (first|(go_at_call 174;refine (logic_any ⟨xk,xn,xs⟩ ⟨yk,yn,ys⟩ xok yok 1 _).mono ?_;rintro e w1 ⟨rfl,hb1⟩;have hq:=below_undrew hb1;have x0':=bat hq hB0 x0;have x1':=bat hq hB0 x1;have x2':=bat hq hB0 x2;have y0':=bat hq hB0 y0;have y1':=bat hq hB0 y1;have y2':=bat hq hB0 y2;have Z:=hide (Z.out.below hq);have hb0:=below_trans hb0 hq;clear hb1;obtain ⟨z0,z1,z2,f0,f1,f2,_⟩:=Z.out;generalize hbv:logicV ⟨xk,xn,xs⟩ ⟨yk,yn,ys⟩ 1=bv;obtain ⟨bk,bn,bs⟩:=bv;have HBV:=hide hbv;clear hbv;simp only[Val.cells]))
 go_wp2
 refine bodyPost_ret (v:=.tuple #[.agg (Val.cells ⟨bk,bn,bs⟩).toArray,.bool true]) (results_cells2 (cs:=Val.cells ⟨bk,bn,bs⟩) rfl _ _ (w.heap.size+1) _ _ rfl rfl (set_three Z.out.c0 Z.out.c1 Z.out.c2) Tryz.underlying74 rfl (by kernel_rfl)) rfl ⟨by rw[HV.out,HBV.out],below_set3 hb0 (by omega) _ _ _⟩
theorem sp_16 (zz:List Zone)(kd nu ar:Int)(st nm:ByteArray)(w:World)(b off:Nat)(c:Nat)(xk xn:Int)(xs:ByteArray)(hx:In w (some ⟨b,off,none⟩) 1 c ([⟨xk,xn,xs⟩]:List Val)):
  Calls Tryz.prog 143 #[.agg #[.int .i64 16,.int .i64 kd,.int .i64 nu,.string st,.string nm,.int .i64 ar],.slice (some ⟨b,off,none⟩) 1 c] w λe w'=>e=.returned (.tuple #[.agg (opV zz ⟨16,⟨kd,nu,st⟩,nm,ar⟩ ([⟨xk,xn,xs⟩]:List Val)).cells.toArray,.bool true])/\Below w.heap.size w w':=by
 have HV:Hid (opV zz ⟨16,⟨kd,nu,st⟩,nm,ar⟩ ([⟨xk,xn,xs⟩]:List Val)=boolV (xk==0)):=hide (by rfl)
 obtain ⟨hB,xV,xok⟩:=val_cells hx (show 0<1 by omega) (x:=⟨xk,xn,xs⟩) rfl
 go_enter Tryz.func143,Tryz.ntmps143
 go_upto_region 9 with (fail)
 obtain ⟨w0,hw0,Z,N0,N1,N2,N3,N4, -,hb0⟩:=startN w 16 kd nu ar st nm
 rw[<-hw0]
 clear hw0
 have hn0:w.heap.size<w0.heap.size:=Nat.lt_trans (show w.heap.size<w.heap.size+1 by omega) Z.out.lt
 have hB0:b<w0.heap.size:=by have:=hb0.size;omega
 have hne:¬b=w.heap.size+1:=by omega
 obtain ⟨x0,x1,x2⟩:=V3.below xV hb0 hB
 simp only[Nat.zero_mul,Nat.one_mul,Nat.add_zero,Nat.reduceMul]at x0 x1 x2
 go_wp2_with fail
 refine (boolV_any (xk==0) _).mono ?_
 rintro e w3 ⟨rfl,hb3⟩
 have Z:=hide (Z.out.below hb3)
 have hb0:=below_trans hb0 hb3
 clear hb3
 obtain ⟨z0,z1,z2,f0,f1,f2,_⟩:=Z.out
 generalize hbv:boolV (xk==0)=bv
 obtain ⟨bk,bn,bs⟩:=bv
 have HBV:=hide hbv
 clear hbv
 simp only[Val.cells]
 go_wp2
 refine bodyPost_ret (v:=.tuple #[.agg (Val.cells ⟨bk,bn,bs⟩).toArray,.bool true]) (results_cells2 (cs:=Val.cells ⟨bk,bn,bs⟩) rfl _ _ (w.heap.size+1) _ _ rfl rfl (set_three Z.out.c0 Z.out.c1 Z.out.c2) Tryz.underlying74 rfl (by kernel_rfl)) rfl ⟨by rw[HV.out,HBV.out],below_set3 hb0 (by omega) _ _ _⟩
theorem sp_17t (zz:List Zone)(kd nu ar:Int)(st nm:ByteArray)(w:World)(b off:Nat)(c:Nat)(xk xn yk yn zk zn:Int)(xs ys zs:ByteArray)(hx:In w (some ⟨b,off,none⟩) 3 c ([⟨xk,xn,xs⟩,⟨yk,yn,ys⟩,⟨zk,zn,zs⟩]:List Val))(q:(truth ⟨xk,xn,xs⟩==1)=true):
  Calls Tryz.prog 143 #[.agg #[.int .i64 17,.int .i64 kd,.int .i64 nu,.string st,.string nm,.int .i64 ar],.slice (some ⟨b,off,none⟩) 3 c] w λe w'=>e=.returned (.tuple #[.agg (opV zz ⟨17,⟨kd,nu,st⟩,nm,ar⟩ ([⟨xk,xn,xs⟩,⟨yk,yn,ys⟩,⟨zk,zn,zs⟩]:List Val)).cells.toArray,.bool true])/\Below w.heap.size w w':=by
 have HV:Hid (opV zz ⟨17,⟨kd,nu,st⟩,nm,ar⟩ ([⟨xk,xn,xs⟩,⟨yk,yn,ys⟩,⟨zk,zn,zs⟩]:List Val)=⟨yk,yn,ys⟩):=hide (by simp only[opV];rw[if_pos (by simpa using q)])
 obtain ⟨hB,xV,xok⟩:=val_cells hx (show 0<3 by omega) (x:=⟨xk,xn,xs⟩) rfl
 obtain ⟨hB,yV,yok⟩:=val_cells hx (show 1<3 by omega) (x:=⟨yk,yn,ys⟩) rfl
 obtain ⟨hB,zV,zok⟩:=val_cells hx (show 2<3 by omega) (x:=⟨zk,zn,zs⟩) rfl
 obtain ⟨p,hp⟩: ∃p,truth ⟨xk,xn,xs⟩=p:=⟨_,rfl⟩
 rw[hp]at q
 have HP:=hide hp
 clear hp
 go_enter Tryz.func143,Tryz.ntmps143
 go_upto_region 11 with (fail)
 obtain ⟨w0,hw0,Z,N0,N1,N2,N3,N4, -,hb0⟩:=startN w 17 kd nu ar st nm
 rw[<-hw0]
 clear hw0
 have hn0:w.heap.size<w0.heap.size:=Nat.lt_trans (show w.heap.size<w.heap.size+1 by omega) Z.out.lt
 have hB0:b<w0.heap.size:=by have:=hb0.size;omega
 have hne:¬b=w.heap.size+1:=by omega
 obtain ⟨x0,x1,x2⟩:=V3.below xV hb0 hB
 obtain ⟨y0,y1,y2⟩:=V3.below yV hb0 hB
 obtain ⟨z0,z1,z2⟩:=V3.below zV hb0 hB
 simp only[Nat.zero_mul,Nat.one_mul,Nat.add_zero,Nat.reduceMul]at x0 x1 x2 y0 y1 y2 z0 z1 z2
 go_wp2_with fail
 refine (truth_any ⟨xk,xn,xs⟩ xok _).mono ?_
 rintro e w1 ⟨rfl,hb1⟩
 have y0:=bat hb1 hB0 y0
 have y1:=bat hb1 hB0 y1
 have y2:=bat hb1 hB0 y2
 have z0:=bat hb1 hB0 z0
 have z1:=bat hb1 hB0 z1
 have z2:=bat hb1 hB0 z2
 have Z:=hide (Z.out.below hb1)
 have hb0:=below_trans hb0 hb1
 clear hb1
 rw[HP.out]
 obtain ⟨q0,q1,q2,f0,f1,f2,_⟩:=Z.out
 go_wp2
 refine bodyPost_ret (v:=.tuple #[.agg (Val.cells ⟨yk,yn,ys⟩).toArray,.bool true]) (results_cells2 (cs:=Val.cells ⟨yk,yn,ys⟩) rfl _ _ (w.heap.size+1) _ _ rfl rfl (set_three Z.out.c0 Z.out.c1 Z.out.c2) Tryz.underlying74 rfl (by kernel_rfl)) rfl ⟨by rw[HV.out],below_set3 hb0 (by omega) _ _ _⟩
theorem sp_17f (zz:List Zone)(kd nu ar:Int)(st nm:ByteArray)(w:World)(b off:Nat)(c:Nat)(xk xn yk yn zk zn:Int)(xs ys zs:ByteArray)(hx:In w (some ⟨b,off,none⟩) 3 c ([⟨xk,xn,xs⟩,⟨yk,yn,ys⟩,⟨zk,zn,zs⟩]:List Val))(q:(truth ⟨xk,xn,xs⟩==1)=false):
  Calls Tryz.prog 143 #[.agg #[.int .i64 17,.int .i64 kd,.int .i64 nu,.string st,.string nm,.int .i64 ar],.slice (some ⟨b,off,none⟩) 3 c] w λe w'=>e=.returned (.tuple #[.agg (opV zz ⟨17,⟨kd,nu,st⟩,nm,ar⟩ ([⟨xk,xn,xs⟩,⟨yk,yn,ys⟩,⟨zk,zn,zs⟩]:List Val)).cells.toArray,.bool true])/\Below w.heap.size w w':=by
 have HV:Hid (opV zz ⟨17,⟨kd,nu,st⟩,nm,ar⟩ ([⟨xk,xn,xs⟩,⟨yk,yn,ys⟩,⟨zk,zn,zs⟩]:List Val)=⟨zk,zn,zs⟩):=hide (by simp only[opV];rw[if_neg (by simpa using q)])
 obtain ⟨hB,xV,xok⟩:=val_cells hx (show 0<3 by omega) (x:=⟨xk,xn,xs⟩) rfl
 obtain ⟨hB,yV,yok⟩:=val_cells hx (show 1<3 by omega) (x:=⟨yk,yn,ys⟩) rfl
 obtain ⟨hB,zV,zok⟩:=val_cells hx (show 2<3 by omega) (x:=⟨zk,zn,zs⟩) rfl
 obtain ⟨p,hp⟩: ∃p,truth ⟨xk,xn,xs⟩=p:=⟨_,rfl⟩
 rw[hp]at q
 have HP:=hide hp
 clear hp
 go_enter Tryz.func143,Tryz.ntmps143
 go_upto_region 11 with (fail)
 obtain ⟨w0,hw0,Z,N0,N1,N2,N3,N4, -,hb0⟩:=startN w 17 kd nu ar st nm
 rw[<-hw0]
 clear hw0
 have hn0:w.heap.size<w0.heap.size:=Nat.lt_trans (show w.heap.size<w.heap.size+1 by omega) Z.out.lt
 have hB0:b<w0.heap.size:=by have:=hb0.size;omega
 have hne:¬b=w.heap.size+1:=by omega
 obtain ⟨x0,x1,x2⟩:=V3.below xV hb0 hB
 obtain ⟨y0,y1,y2⟩:=V3.below yV hb0 hB
 obtain ⟨z0,z1,z2⟩:=V3.below zV hb0 hB
 simp only[Nat.zero_mul,Nat.one_mul,Nat.add_zero,Nat.reduceMul]at x0 x1 x2 y0 y1 y2 z0 z1 z2
 go_wp2_with fail
 refine (truth_any ⟨xk,xn,xs⟩ xok _).mono ?_
 rintro e w1 ⟨rfl,hb1⟩
 have y0:=bat hb1 hB0 y0
 have y1:=bat hb1 hB0 y1
 have y2:=bat hb1 hB0 y2
 have z0:=bat hb1 hB0 z0
 have z1:=bat hb1 hB0 z1
 have z2:=bat hb1 hB0 z2
 have Z:=hide (Z.out.below hb1)
 have hb0:=below_trans hb0 hb1
 clear hb1
 rw[HP.out]
 obtain ⟨q0,q1,q2,f0,f1,f2,_⟩:=Z.out
 go_wp2
 refine bodyPost_ret (v:=.tuple #[.agg (Val.cells ⟨zk,zn,zs⟩).toArray,.bool true]) (results_cells2 (cs:=Val.cells ⟨zk,zn,zs⟩) rfl _ _ (w.heap.size+1) _ _ rfl rfl (set_three Z.out.c0 Z.out.c1 Z.out.c2) Tryz.underlying74 rfl (by kernel_rfl)) rfl ⟨by rw[HV.out],below_set3 hb0 (by omega) _ _ _⟩
theorem sp_18t (zz:List Zone)(kd nu ar:Int)(st nm:ByteArray)(w:World)(b off:Nat)(c:Nat)(xk xn yk yn:Int)(xs ys:ByteArray)(hx:In w (some ⟨b,off,none⟩) 2 c ([⟨xk,xn,xs⟩,⟨yk,yn,ys⟩]:List Val))(q:(xk==0)=true):
  Calls Tryz.prog 143 #[.agg #[.int .i64 18,.int .i64 kd,.int .i64 nu,.string st,.string nm,.int .i64 ar],.slice (some ⟨b,off,none⟩) 2 c] w λe w'=>e=.returned (.tuple #[.agg (opV zz ⟨18,⟨kd,nu,st⟩,nm,ar⟩ ([⟨xk,xn,xs⟩,⟨yk,yn,ys⟩]:List Val)).cells.toArray,.bool true])/\Below w.heap.size w w':=by
 have HV:Hid (opV zz ⟨18,⟨kd,nu,st⟩,nm,ar⟩ ([⟨xk,xn,xs⟩,⟨yk,yn,ys⟩]:List Val)=⟨yk,yn,ys⟩):=hide (by simp only[opV,Int.reduceEq,if_false,if_true];rw[if_pos (by simpa using q)])
 obtain ⟨hB,xV,xok⟩:=val_cells hx (show 0<2 by omega) (x:=⟨xk,xn,xs⟩) rfl
 obtain ⟨hB,yV,yok⟩:=val_cells hx (show 1<2 by omega) (x:=⟨yk,yn,ys⟩) rfl
 go_enter Tryz.func143,Tryz.ntmps143
 go_upto_region 15 with (fail)
 obtain ⟨w0,hw0,Z,N0,N1,N2,N3,N4, -,hb0⟩:=startN w 18 kd nu ar st nm
 rw[<-hw0]
 clear hw0
 have hn0:w.heap.size<w0.heap.size:=Nat.lt_trans (show w.heap.size<w.heap.size+1 by omega) Z.out.lt
 have hB0:b<w0.heap.size:=by have:=hb0.size;omega
 have hne:¬b=w.heap.size+1:=by omega
 obtain ⟨x0,x1,x2⟩:=V3.below xV hb0 hB
 obtain ⟨y0,y1,y2⟩:=V3.below yV hb0 hB
 simp only[Nat.zero_mul,Nat.one_mul,Nat.add_zero,Nat.reduceMul]at x0 x1 x2 y0 y1 y2
 obtain ⟨z0,z1,z2,f0,f1,f2,_⟩:=Z.out
 go_wp2
 refine bodyPost_ret (v:=.tuple #[.agg (Val.cells ⟨yk,yn,ys⟩).toArray,.bool true]) (results_cells2 (cs:=Val.cells ⟨yk,yn,ys⟩) rfl _ _ (w.heap.size+1) _ _ rfl rfl (set_three Z.out.c0 Z.out.c1 Z.out.c2) Tryz.underlying74 rfl (by kernel_rfl)) rfl ⟨by rw[HV.out],below_set3 hb0 (by omega) _ _ _⟩
theorem sp_18f (zz:List Zone)(kd nu ar:Int)(st nm:ByteArray)(w:World)(b off:Nat)(c:Nat)(xk xn yk yn:Int)(xs ys:ByteArray)(hx:In w (some ⟨b,off,none⟩) 2 c ([⟨xk,xn,xs⟩,⟨yk,yn,ys⟩]:List Val))(q:(xk==0)=false):
  Calls Tryz.prog 143 #[.agg #[.int .i64 18,.int .i64 kd,.int .i64 nu,.string st,.string nm,.int .i64 ar],.slice (some ⟨b,off,none⟩) 2 c] w λe w'=>e=.returned (.tuple #[.agg (opV zz ⟨18,⟨kd,nu,st⟩,nm,ar⟩ ([⟨xk,xn,xs⟩,⟨yk,yn,ys⟩]:List Val)).cells.toArray,.bool true])/\Below w.heap.size w w':=by
 have HV:Hid (opV zz ⟨18,⟨kd,nu,st⟩,nm,ar⟩ ([⟨xk,xn,xs⟩,⟨yk,yn,ys⟩]:List Val)=⟨xk,xn,xs⟩):=hide (by simp only[opV,Int.reduceEq,if_false,if_true];rw[if_neg (by simpa using q)])
 obtain ⟨hB,xV,xok⟩:=val_cells hx (show 0<2 by omega) (x:=⟨xk,xn,xs⟩) rfl
 obtain ⟨hB,yV,yok⟩:=val_cells hx (show 1<2 by omega) (x:=⟨yk,yn,ys⟩) rfl
 go_enter Tryz.func143,Tryz.ntmps143
 go_upto_region 15 with (fail)
 obtain ⟨w0,hw0,Z,N0,N1,N2,N3,N4, -,hb0⟩:=startN w 18 kd nu ar st nm
 rw[<-hw0]
 clear hw0
 have hn0:w.heap.size<w0.heap.size:=Nat.lt_trans (show w.heap.size<w.heap.size+1 by omega) Z.out.lt
 have hB0:b<w0.heap.size:=by have:=hb0.size;omega
 have hne:¬b=w.heap.size+1:=by omega
 obtain ⟨x0,x1,x2⟩:=V3.below xV hb0 hB
 obtain ⟨y0,y1,y2⟩:=V3.below yV hb0 hB
 simp only[Nat.zero_mul,Nat.one_mul,Nat.add_zero,Nat.reduceMul]at x0 x1 x2 y0 y1 y2
 obtain ⟨z0,z1,z2,f0,f1,f2,_⟩:=Z.out
 go_wp2
 refine bodyPost_ret (v:=.tuple #[.agg (Val.cells ⟨xk,xn,xs⟩).toArray,.bool true]) (results_cells2 (cs:=Val.cells ⟨xk,xn,xs⟩) rfl _ _ (w.heap.size+1) _ _ rfl rfl (set_three Z.out.c0 Z.out.c1 Z.out.c2) Tryz.underlying74 rfl (by kernel_rfl)) rfl ⟨by rw[HV.out],below_set3 hb0 (by omega) _ _ _⟩
theorem sp_no (op kd nu ar:Int)(st nm:ByteArray)(q0:(op==0)=false)(q1:(op==14)=false)(q2:(op==15)=false)(q3:(op==16)=false)(q4:(op==17)=false)(q5:(op==18)=false)(w:World)(v:Value):
  Calls Tryz.prog 143 #[.agg #[.int .i64 op,.int .i64 kd,.int .i64 nu,.string st,.string nm,.int .i64 ar],v] w λe w'=>e=.returned (.tuple #[.agg nullV.cells.toArray,.bool false])/\Below w.heap.size w w':=by
 go_enter Tryz.func143,Tryz.ntmps143
 go_wp2
 refine bodyPost_ret (v:=.tuple #[.agg nullV.cells.toArray,.bool false]) (by simp[results,Tryz.results143,go_sem,Val.cells,nullV]) rfl ⟨rfl,by first|exact below_alloc2|exact below_set3 below_alloc2 (by omega) _ _ _⟩
end Go.Proofs.YtggejcekmehocaaGreatDoor
