/-
  scalar.apply: with its operands it returns opV. (Printed by gen_app.py.)
-/
import Derived.Test.YtggejcekmehocaaGreatDoorAppA
import Derived.Test.YtggejcekmehocaaGreatDoorGai
import Derived.Test.YtggejcekmehocaaGreatDoorGau
namespace Go.Proofs.YtggejcekmehocaaGreatDoor
set_option maxHeartbeats 2000000
set_option maxRecDepth 100000
open Go.RowKit
set_option linter.unusedSimpArgs false
set_option linter.unusedVariables false
theorem ap_2 (zz:List Zone)(kd nu ar:Int)(st nm:ByteArray)(w:World)(b off:Nat)(c:Nat)(xk xn:Int)(xs:ByteArray)(hx:In w (some ⟨b,off,none⟩) 1 c ([⟨xk,xn,xs⟩]:List Val))(hkx:¬xk=0)(hk1:xk=1)(hv:valid ⟨xk,xn,xs⟩=true)(A2:Option Addr)(n2 c2:Nat)(hz:In w A2 n2 c2 zz):
  Calls Tryz.prog 145 #[.agg #[.int .i64 2,.int .i64 kd,.int .i64 nu,.string st,.string nm,.int .i64 ar],.slice (some ⟨b,off,none⟩) 1 c,.slice A2 n2 c2] w λe w'=>e=.returned (.agg (opV zz ⟨2,⟨kd,nu,st⟩,nm,ar⟩ ([⟨xk,xn,xs⟩]:List Val)).cells.toArray)/\Below w.heap.size w w':=by
 have HV:Hid (opV zz ⟨2,⟨kd,nu,st⟩,nm,ar⟩ ([⟨xk,xn,xs⟩]:List Val)=boolV (truth ⟨xk,xn,xs⟩==0)):=hide (by simp only[opV,unV,Int.reduceEq,if_false];rw[if_neg hkx];(try simp only[Int.reduceEq,if_false,if_true]);rw[truth_valid hv,if_pos hk1])
 obtain ⟨hB,xV,xok⟩:=val_cells hx (show 0<1 by omega) (x:=⟨xk,xn,xs⟩) rfl
 clear hkx hk1 hv
 go_enter Tryz.func145,Tryz.ntmps145
 go_upto_region 3 with (fail)
 obtain ⟨w0,hw0,Z,N0,N1,N2,N3,N4, -,hb0⟩:=startN w 2 kd nu ar st nm
 rw[<-hw0]
 clear hw0
 have hn0:w.heap.size<w0.heap.size:=Nat.lt_trans (show w.heap.size<w.heap.size+1 by omega) Z.out.lt
 have hB0:b<w0.heap.size:=by have:=hb0.size;omega
 have hne:¬b=w.heap.size+1:=by omega
 obtain ⟨x0,x1,x2⟩:=V3.below xV hb0 hB
 simp only[Nat.zero_mul,Nat.one_mul,Nat.add_zero,Nat.reduceMul]at x0 x1 x2
 go_wp2_with fail
 refine (truth_any ⟨xk,xn,xs⟩ xok _).mono ?_
 rintro e w1 ⟨rfl,hb1⟩
 have Z:=hide (Z.out.below hb1)
 have hb0:=below_trans hb0 hb1
 clear hb1
 go_wp2_with fail
 refine (boolV_any (truth ⟨xk,xn,xs⟩==0) _).mono ?_
 rintro e w3 ⟨rfl,hb3⟩
 have Z:=hide (Z.out.below hb3)
 have hb0:=below_trans hb0 hb3
 clear hb3
 obtain ⟨z0,z1,z2,f0,f1,f2,_⟩:=Z.out
 generalize hbv:boolV (truth ⟨xk,xn,xs⟩==0)=bv
 obtain ⟨bk,bn,bs⟩:=bv
 have HBV:=hide hbv
 clear hbv
 simp only[Val.cells]
 go_wp2
 refine ret3 rfl Z.out rfl rfl ⟨by rw[HV.out,HBV.out],below_set3 hb0 (by omega) _ _ _⟩
theorem ap_3 (zz:List Zone)(kd nu ar:Int)(st nm:ByteArray)(w:World)(b off:Nat)(c:Nat)(xk xn:Int)(xs:ByteArray)(hx:In w (some ⟨b,off,none⟩) 1 c ([⟨xk,xn,xs⟩]:List Val))(hkx:¬xk=0)(hx30:Bnd30 xn)(A2:Option Addr)(n2 c2:Nat)(hz:In w A2 n2 c2 zz):
  Calls Tryz.prog 145 #[.agg #[.int .i64 3,.int .i64 kd,.int .i64 nu,.string st,.string nm,.int .i64 ar],.slice (some ⟨b,off,none⟩) 1 c,.slice A2 n2 c2] w λe w'=>e=.returned (.agg (opV zz ⟨3,⟨kd,nu,st⟩,nm,ar⟩ ([⟨xk,xn,xs⟩]:List Val)).cells.toArray)/\Below w.heap.size w w':=by
 have HV:Hid (opV zz ⟨3,⟨kd,nu,st⟩,nm,ar⟩ ([⟨xk,xn,xs⟩]:List Val)=numV (subX 0 xn).1 (subX 0 xn).2):=hide (by simp only[opV,unV,Int.reduceEq,if_false];rw[if_neg hkx];(try simp only[Int.reduceEq,if_false,if_true]))
 obtain ⟨hB,xV,xok⟩:=val_cells hx (show 0<1 by omega) (x:=⟨xk,xn,xs⟩) rfl
 have HKX:=hide hkx
 clear hkx
 go_enter Tryz.func145,Tryz.ntmps145
 go_upto_region 5 with (fail)
 obtain ⟨w0,hw0,Z,N0,N1,N2,N3,N4, -,hb0⟩:=startN w 3 kd nu ar st nm
 rw[<-hw0]
 clear hw0
 have hn0:w.heap.size<w0.heap.size:=Nat.lt_trans (show w.heap.size<w.heap.size+1 by omega) Z.out.lt
 have hB0:b<w0.heap.size:=by have:=hb0.size;omega
 have hne:¬b=w.heap.size+1:=by omega
 obtain ⟨x0,x1,x2⟩:=V3.below xV hb0 hB
 simp only[Nat.zero_mul,Nat.one_mul,Nat.add_zero,Nat.reduceMul]at x0 x1 x2
 go_wp2_with fail
 refine (sub_any 0 xn (by unfold Bnd30;omega) hx30 _).mono ?_
 rintro e w' ⟨rfl,rfl⟩
 go_wp2_with fail
 refine (numV_any _ _ _).mono ?_
 rintro e w3 ⟨rfl,hb3⟩
 have Z:=hide (Z.out.below hb3)
 have hb0:=below_trans hb0 hb3
 clear hb3
 obtain ⟨z0,z1,z2,f0,f1,f2,_⟩:=Z.out
 generalize hbv:numV (subX 0 xn).1 (subX 0 xn).2=bv
 obtain ⟨bk,bn,bs⟩:=bv
 have HBV:=hide hbv
 clear hbv
 simp only[Val.cells]
 go_wp2
 refine ret3 rfl Z.out rfl rfl ⟨by rw[HV.out,HBV.out],below_set3 hb0 (by omega) _ _ _⟩
theorem ap_9t (zz:List Zone)(kd nu ar:Int)(st nm:ByteArray)(w:World)(b off:Nat)(c:Nat)(xk xn yk yn:Int)(xs ys:ByteArray)(hx:In w (some ⟨b,off,none⟩) 2 c ([⟨xk,xn,xs⟩,⟨yk,yn,ys⟩]:List Val))(hkx:¬xk=0)(hky:¬yk=0)(hsx:xs.size<=64)(hsy:ys.size<=64)(hl:64<(xs++ys).size)(A2:Option Addr)(n2 c2:Nat)(hz:In w A2 n2 c2 zz):
  Calls Tryz.prog 145 #[.agg #[.int .i64 9,.int .i64 kd,.int .i64 nu,.string st,.string nm,.int .i64 ar],.slice (some ⟨b,off,none⟩) 2 c,.slice A2 n2 c2] w λe w'=>e=.returned (.agg (opV zz ⟨9,⟨kd,nu,st⟩,nm,ar⟩ ([⟨xk,xn,xs⟩,⟨yk,yn,ys⟩]:List Val)).cells.toArray)/\Below w.heap.size w w':=by
 have HV:Hid (opV zz ⟨9,⟨kd,nu,st⟩,nm,ar⟩ ([⟨xk,xn,xs⟩,⟨yk,yn,ys⟩]:List Val)=nullV):=hide (by simp only[opV,Int.reduceEq,if_false];rw[if_neg (by rintro (h|h);exact hkx h;exact hky h)];simp only[binV,arithV,Int.reduceEq,or_self,or_false,false_or,or_true,true_or,if_false,if_true];rw[if_pos hl])
 obtain ⟨hB,xV,xok⟩:=val_cells hx (show 0<2 by omega) (x:=⟨xk,xn,xs⟩) rfl
 obtain ⟨hB,yV,yok⟩:=val_cells hx (show 1<2 by omega) (x:=⟨yk,yn,ys⟩) rfl
 have HKX:=hide hkx
 clear hkx
 have HKY:=hide hky
 clear hky
 go_enter Tryz.func145,Tryz.ntmps145
 go_wp2
 obtain ⟨w0,hw0,Z,N0,N1,N2,N3,N4, -,hb0⟩:=startN w 9 kd nu ar st nm
 rw[<-hw0]
 clear hw0
 have hn0:w.heap.size<w0.heap.size:=Nat.lt_trans (show w.heap.size<w.heap.size+1 by omega) Z.out.lt
 have hB0:b<w0.heap.size:=by have:=hb0.size;omega
 have hne:¬b=w.heap.size+1:=by omega
 obtain ⟨x0,x1,x2⟩:=V3.below xV hb0 hB
 obtain ⟨y0,y1,y2⟩:=V3.below yV hb0 hB
 simp only[Nat.zero_mul,Nat.one_mul,Nat.add_zero,Nat.reduceMul]at x0 x1 x2 y0 y1 y2
 have hlx:xs.size+ys.size=(xs++ys).size:=by rw[ByteArray.size_append]
 have hl3:xs.size+ys.size<=9223372036854775807:=by omega
 have hl5:(xs++ys).size<=9223372036854775807:=by omega
 have hl4:=λV=>run_string_add_sum (P:=Tryz.prog) (w:=V) xs ys hl3
 have hl6:¬((xs++ys).size:Int)<=64:=by omega
 go_quiet (fail)
 have Z:=hide (Z.out.drewN nq)
 obtain ⟨cat,hcat⟩: ∃cat,cat=xs++ys:=⟨_,rfl⟩
 rw[<-hcat]at hl5 hl6⊢
 have HCAT:=hide hcat
 clear hl4 hl3 hlx hcat hl
 obtain ⟨z0,z1,z2,f0,f1,f2,_⟩:=Z.out
 go_wp2
 refine bodyPost_ret (v:=.agg (Val.cells nullV).toArray) (results_cells (cs:=Val.cells nullV) rfl _ _ (w.heap.size+1) _ rfl (set_three Z.out.c0 Z.out.c1 Z.out.c2) Tryz.underlying74 rfl (by kernel_rfl)) rfl ⟨by rw[HV.out],below_set3 (below_drewN hb0 _) (by omega) _ _ _⟩
theorem ap_9n (zz:List Zone)(kd nu ar:Int)(st nm:ByteArray)(w:World)(b off:Nat)(c:Nat)(xk xn yk yn:Int)(xs ys:ByteArray)(hx:In w (some ⟨b,off,none⟩) 2 c ([⟨xk,xn,xs⟩,⟨yk,yn,ys⟩]:List Val))(hkx:¬xk=0)(hky:¬yk=0)(hsx:xs.size<=64)(hsy:ys.size<=64)(hl:¬64<(xs++ys).size)(A2:Option Addr)(n2 c2:Nat)(hz:In w A2 n2 c2 zz):
  Calls Tryz.prog 145 #[.agg #[.int .i64 9,.int .i64 kd,.int .i64 nu,.string st,.string nm,.int .i64 ar],.slice (some ⟨b,off,none⟩) 2 c,.slice A2 n2 c2] w λe w'=>e=.returned (.agg (opV zz ⟨9,⟨kd,nu,st⟩,nm,ar⟩ ([⟨xk,xn,xs⟩,⟨yk,yn,ys⟩]:List Val)).cells.toArray)/\Below w.heap.size w w':=by
 have HV:Hid (opV zz ⟨9,⟨kd,nu,st⟩,nm,ar⟩ ([⟨xk,xn,xs⟩,⟨yk,yn,ys⟩]:List Val)=⟨3,0,xs++ys⟩):=hide (by simp only[opV,Int.reduceEq,if_false];rw[if_neg (by rintro (h|h);exact hkx h;exact hky h)];simp only[binV,arithV,Int.reduceEq,or_self,or_false,false_or,or_true,true_or,if_false,if_true];rw[if_neg hl])
 obtain ⟨hB,xV,xok⟩:=val_cells hx (show 0<2 by omega) (x:=⟨xk,xn,xs⟩) rfl
 obtain ⟨hB,yV,yok⟩:=val_cells hx (show 1<2 by omega) (x:=⟨yk,yn,ys⟩) rfl
 have HKX:=hide hkx
 clear hkx
 have HKY:=hide hky
 clear hky
 go_enter Tryz.func145,Tryz.ntmps145
 go_wp2
 obtain ⟨w0,hw0,Z,N0,N1,N2,N3,N4, -,hb0⟩:=startN w 9 kd nu ar st nm
 rw[<-hw0]
 clear hw0
 have hn0:w.heap.size<w0.heap.size:=Nat.lt_trans (show w.heap.size<w.heap.size+1 by omega) Z.out.lt
 have hB0:b<w0.heap.size:=by have:=hb0.size;omega
 have hne:¬b=w.heap.size+1:=by omega
 obtain ⟨x0,x1,x2⟩:=V3.below xV hb0 hB
 obtain ⟨y0,y1,y2⟩:=V3.below yV hb0 hB
 simp only[Nat.zero_mul,Nat.one_mul,Nat.add_zero,Nat.reduceMul]at x0 x1 x2 y0 y1 y2
 have hlx:xs.size+ys.size=(xs++ys).size:=by rw[ByteArray.size_append]
 have hl3:xs.size+ys.size<=9223372036854775807:=by omega
 have hl5:(xs++ys).size<=9223372036854775807:=by omega
 have hl4:=λV=>run_string_add_sum (P:=Tryz.prog) (w:=V) xs ys hl3
 have hl6:((xs++ys).size:Int)<=64:=by omega
 go_quiet (fail)
 have Z:=hide (Z.out.drewN nq)
 obtain ⟨cat,hcat⟩: ∃cat,cat=xs++ys:=⟨_,rfl⟩
 rw[<-hcat]at hl5 hl6⊢
 have HCAT:=hide hcat
 clear hl4 hl3 hlx hcat hl
 obtain ⟨z0,z1,z2,f0,f1,f2,_⟩:=Z.out
 go_wp2
 refine ret3 rfl Z.out rfl rfl ⟨by rw[HV.out,HCAT.out],below_set3 (below_drewN hb0 _) (by omega) _ _ _⟩
theorem ap_eq (op:Int)(q r:Bool)(hop:op=10/\r=q\/op=11/\r=!q)(zz:List Zone)(kd nu ar:Int)(st nm:ByteArray)(w:World)(b off:Nat)(c:Nat)(xk xn yk yn:Int)(xs ys:ByteArray)(hx:In w (some ⟨b,off,none⟩) 2 c ([⟨xk,xn,xs⟩,⟨yk,yn,ys⟩]:List Val))(hkx:¬xk=0)(hky:¬yk=0)(hcmp:(cmpVal ⟨xk,xn,xs⟩ ⟨yk,yn,ys⟩==0)=q/\(cmpVal ⟨xk,xn,xs⟩ ⟨yk,yn,ys⟩ != 0)=!q)(hd:(xk==yk)=false/\q=false\/(xk==yk)=true/\(xn==yn)=false/\q=false\/(xk==yk)=true/\(xn==yn)=true/\(xs.toList==ys.toList)=false/\q=false\/(xk==yk)=true/\(xn==yn)=true/\(xs.toList==ys.toList)=true/\q=true)(A2:Option Addr)(n2 c2:Nat)(hz:In w A2 n2 c2 zz):
  Calls Tryz.prog 145 #[.agg #[.int .i64 op,.int .i64 kd,.int .i64 nu,.string st,.string nm,.int .i64 ar],.slice (some ⟨b,off,none⟩) 2 c,.slice A2 n2 c2] w λe w'=>e=.returned (.agg (opV zz ⟨op,⟨kd,nu,st⟩,nm,ar⟩ ([⟨xk,xn,xs⟩,⟨yk,yn,ys⟩]:List Val)).cells.toArray)/\Below w.heap.size w w':=by
 have HV:Hid (opV zz ⟨op,⟨kd,nu,st⟩,nm,ar⟩ ([⟨xk,xn,xs⟩,⟨yk,yn,ys⟩]:List Val)=boolV r):=hide (by rcases hop with ⟨rfl,rfl⟩|⟨rfl,rfl⟩ <;> (simp only[opV,Int.reduceEq,if_false];rw[if_neg (by rintro (h|h);exact hkx h;exact hky h)];simp only[binV,arithV,Int.reduceEq,or_self,or_false,false_or,or_true,true_or,if_false,if_true];first|rw[hcmp.1]|rw[hcmp.2]))
 rcases hop with ⟨rfl,rfl⟩|⟨rfl,rfl⟩ <;> rcases hd with ⟨d0,rfl⟩|⟨d0,d1,rfl⟩|⟨d0,d1,d2,rfl⟩|⟨d0,d1,d2,rfl⟩
 all_goals
  (try simp only[Bool.not_false,Bool.not_true]at HV)
  obtain ⟨hB,xV,xok⟩:=val_cells hx (show 0<2 by omega) (x:=⟨xk,xn,xs⟩) rfl
  obtain ⟨hB,yV,yok⟩:=val_cells hx (show 1<2 by omega) (x:=⟨yk,yn,ys⟩) rfl
  have HKX:=hide hkx
  clear hkx
  have HKY:=hide hky
  clear hky
  clear hcmp
  go_enter Tryz.func145,Tryz.ntmps145
  go_wp2
  obtain ⟨w0,hw0,Z,N0,N1,N2,N3,N4, -,hb0⟩:=startN w _ kd nu ar st nm
  rw[<-hw0]
  clear hw0
  have hn0:w.heap.size<w0.heap.size:=Nat.lt_trans (show w.heap.size<w.heap.size+1 by omega) Z.out.lt
  have hB0:b<w0.heap.size:=by have:=hb0.size;omega
  have hne:¬b=w.heap.size+1:=by omega
  obtain ⟨x0,x1,x2⟩:=V3.below xV hb0 hB
  obtain ⟨y0,y1,y2⟩:=V3.below yV hb0 hB
  simp only[Nat.zero_mul,Nat.one_mul,Nat.add_zero,Nat.reduceMul]at x0 x1 x2 y0 y1 y2
  go_region_held3 (λV=>V.cell? ⟨b,off,none⟩=some (.int .i64 xk)/\V.cell? ⟨b,off+1,none⟩=some (.int .i64 xn)/\V.cell? ⟨b,off+2,none⟩=some (.string xs)/\V.cell? ⟨b,off+3,none⟩=some (.int .i64 yk)/\V.cell? ⟨b,off+3+1,none⟩=some (.int .i64 yn)/\V.cell? ⟨b,off+3+2,none⟩=some (.string ys)) (first|exact ⟨x0,x1,x2,y0,y1,y2⟩|exact ⟨x0',x1',x2',y0',y1',y2'⟩|exact ⟨set_far (set_far (set_far x0' (.inl hne)) (.inl hne)) (.inl hne),set_far (set_far (set_far x1' (.inl hne)) (.inl hne)) (.inl hne),set_far (set_far (set_far x2' (.inl hne)) (.inl hne)) (.inl hne),set_far (set_far (set_far y0' (.inl hne)) (.inl hne)) (.inl hne),set_far (set_far (set_far y1' (.inl hne)) (.inl hne)) (.inl hne),set_far (set_far (set_far y2' (.inl hne)) (.inl hne)) (.inl hne)⟩) (first|(go_at_call 175;(first|refine (boolV_any false _).mono ?_|refine (boolV_any true _).mono ?_);rintro e w1 ⟨rfl,hb1⟩;have hq:=below_undrew hb1;have x0':=bat hq hB0 x0;have x1':=bat hq hB0 x1;have x2':=bat hq hB0 x2;have y0':=bat hq hB0 y0;have y1':=bat hq hB0 y1;have y2':=bat hq hB0 y2;have Z:=hide (Z.out.below hq);have hb0:=below_trans hb0 hq;clear hb1;obtain ⟨z0,z1,z2,f0,f1,f2,_⟩:=Z.out;generalize hbv:boolV _=bv;obtain ⟨bk,bn,bs⟩:=bv;have HBV:=hide hbv;clear hbv;simp only[Val.cells]))
  go_wp2
  refine ret3 rfl Z.out rfl rfl ⟨by rw[HV.out,HBV.out],below_set3 hb0 (by omega) _ _ _⟩
theorem ap_12 (zz:List Zone)(kd nu ar:Int)(st nm:ByteArray)(w:World)(b off:Nat)(c:Nat)(xk xn yk yn:Int)(xs ys:ByteArray)(hx:In w (some ⟨b,off,none⟩) 2 c ([⟨xk,xn,xs⟩,⟨yk,yn,ys⟩]:List Val))(hkx:¬xk=0)(hky:¬yk=0)(A2:Option Addr)(n2 c2:Nat)(hz:In w A2 n2 c2 zz):
  Calls Tryz.prog 145 #[.agg #[.int .i64 12,.int .i64 kd,.int .i64 nu,.string st,.string nm,.int .i64 ar],.slice (some ⟨b,off,none⟩) 2 c,.slice A2 n2 c2] w λe w'=>e=.returned (.agg (opV zz ⟨12,⟨kd,nu,st⟩,nm,ar⟩ ([⟨xk,xn,xs⟩,⟨yk,yn,ys⟩]:List Val)).cells.toArray)/\Below w.heap.size w w':=by
 have HV:Hid (opV zz ⟨12,⟨kd,nu,st⟩,nm,ar⟩ ([⟨xk,xn,xs⟩,⟨yk,yn,ys⟩]:List Val)=boolV (decide (cmpVal ⟨xk,xn,xs⟩ ⟨yk,yn,ys⟩<0))):=hide (by simp only[opV,Int.reduceEq,if_false];rw[if_neg (by rintro (h|h);exact hkx h;exact hky h)];simp only[binV,arithV,Int.reduceEq,or_self,or_false,false_or,or_true,true_or,if_false,if_true])
 obtain ⟨hB,xV,xok⟩:=val_cells hx (show 0<2 by omega) (x:=⟨xk,xn,xs⟩) rfl
 obtain ⟨hB,yV,yok⟩:=val_cells hx (show 1<2 by omega) (x:=⟨yk,yn,ys⟩) rfl
 have HKX:=hide hkx
 clear hkx
 have HKY:=hide hky
 clear hky
 go_enter Tryz.func145,Tryz.ntmps145
 go_wp2
 obtain ⟨w0,hw0,Z,N0,N1,N2,N3,N4, -,hb0⟩:=startN w 12 kd nu ar st nm
 rw[<-hw0]
 clear hw0
 have hn0:w.heap.size<w0.heap.size:=Nat.lt_trans (show w.heap.size<w.heap.size+1 by omega) Z.out.lt
 have hB0:b<w0.heap.size:=by have:=hb0.size;omega
 have hne:¬b=w.heap.size+1:=by omega
 obtain ⟨x0,x1,x2⟩:=V3.below xV hb0 hB
 obtain ⟨y0,y1,y2⟩:=V3.below yV hb0 hB
 simp only[Nat.zero_mul,Nat.one_mul,Nat.add_zero,Nat.reduceMul]at x0 x1 x2 y0 y1 y2
 go_region_held3 (λV=>V.cell? ⟨b,off,none⟩=some (.int .i64 xk)/\V.cell? ⟨b,off+1,none⟩=some (.int .i64 xn)/\V.cell? ⟨b,off+2,none⟩=some (.string xs)/\V.cell? ⟨b,off+3,none⟩=some (.int .i64 yk)/\V.cell? ⟨b,off+3+1,none⟩=some (.int .i64 yn)/\V.cell? ⟨b,off+3+2,none⟩=some (.string ys)) (first|exact ⟨x0,x1,x2,y0,y1,y2⟩|exact ⟨x0',x1',x2',y0',y1',y2'⟩|exact ⟨set_far (set_far (set_far x0' (.inl hne)) (.inl hne)) (.inl hne),set_far (set_far (set_far x1' (.inl hne)) (.inl hne)) (.inl hne),set_far (set_far (set_far x2' (.inl hne)) (.inl hne)) (.inl hne),set_far (set_far (set_far y0' (.inl hne)) (.inl hne)) (.inl hne),set_far (set_far (set_far y1' (.inl hne)) (.inl hne)) (.inl hne),set_far (set_far (set_far y2' (.inl hne)) (.inl hne)) (.inl hne)⟩) (first|(go_at_call 125;refine (cmp_val ⟨xk,xn,xs⟩ ⟨yk,yn,ys⟩ _).mono ?_;rintro e w1 ⟨rfl,hb1⟩;have hq:=below_undrew hb1;have x0':=bat hq hB0 x0;have x1':=bat hq hB0 x1;have x2':=bat hq hB0 x2;have y0':=bat hq hB0 y0;have y1':=bat hq hB0 y1;have y2':=bat hq hB0 y2;have Z:=hide (Z.out.below hq);have hb0:=below_trans hb0 hq;clear hb1;have hB1:b<w1.heap.size:=Nat.lt_of_lt_of_le hB0 hq.size;generalize hcv:cmpVal ⟨xk,xn,xs⟩ ⟨yk,yn,ys⟩=cv;have HCV:=hide hcv;clear hcv)|(go_at_call 175;refine (boolV_any (decide (cv<0)) _).mono ?_;rintro e w2 ⟨rfl,hb2⟩;have x0':=bat hb2 hB1 x0';have x1':=bat hb2 hB1 x1';have x2':=bat hb2 hB1 x2';have y0':=bat hb2 hB1 y0';have y1':=bat hb2 hB1 y1';have y2':=bat hb2 hB1 y2';have Z:=hide (Z.out.below hb2);have hb0:=below_trans hb0 hb2;clear hb2;obtain ⟨z0,z1,z2,f0,f1,f2,_⟩:=Z.out;generalize hbv:boolV (decide (cv<0))=bv;obtain ⟨bk,bn,bs⟩:=bv;have HBV:=hide hbv;clear hbv;simp only[Val.cells]))
 go_wp2
 refine ret3 rfl Z.out rfl rfl ⟨by rw[HV.out,HCV.out,HBV.out],below_set3 hb0 (by omega) _ _ _⟩
theorem ap_13 (zz:List Zone)(kd nu ar:Int)(st nm:ByteArray)(w:World)(b off:Nat)(c:Nat)(xk xn yk yn:Int)(xs ys:ByteArray)(hx:In w (some ⟨b,off,none⟩) 2 c ([⟨xk,xn,xs⟩,⟨yk,yn,ys⟩]:List Val))(hkx:¬xk=0)(hky:¬yk=0)(A2:Option Addr)(n2 c2:Nat)(hz:In w A2 n2 c2 zz):
  Calls Tryz.prog 145 #[.agg #[.int .i64 13,.int .i64 kd,.int .i64 nu,.string st,.string nm,.int .i64 ar],.slice (some ⟨b,off,none⟩) 2 c,.slice A2 n2 c2] w λe w'=>e=.returned (.agg (opV zz ⟨13,⟨kd,nu,st⟩,nm,ar⟩ ([⟨xk,xn,xs⟩,⟨yk,yn,ys⟩]:List Val)).cells.toArray)/\Below w.heap.size w w':=by
 have HV:Hid (opV zz ⟨13,⟨kd,nu,st⟩,nm,ar⟩ ([⟨xk,xn,xs⟩,⟨yk,yn,ys⟩]:List Val)=boolV (decide (cmpVal ⟨xk,xn,xs⟩ ⟨yk,yn,ys⟩<=0))):=hide (by simp only[opV,Int.reduceEq,if_false];rw[if_neg (by rintro (h|h);exact hkx h;exact hky h)];simp only[binV,arithV,Int.reduceEq,or_self,or_false,false_or,or_true,true_or,if_false,if_true])
 obtain ⟨hB,xV,xok⟩:=val_cells hx (show 0<2 by omega) (x:=⟨xk,xn,xs⟩) rfl
 obtain ⟨hB,yV,yok⟩:=val_cells hx (show 1<2 by omega) (x:=⟨yk,yn,ys⟩) rfl
 have HKX:=hide hkx
 clear hkx
 have HKY:=hide hky
 clear hky
 go_enter Tryz.func145,Tryz.ntmps145
 go_wp2
 obtain ⟨w0,hw0,Z,N0,N1,N2,N3,N4, -,hb0⟩:=startN w 13 kd nu ar st nm
 rw[<-hw0]
 clear hw0
 have hn0:w.heap.size<w0.heap.size:=Nat.lt_trans (show w.heap.size<w.heap.size+1 by omega) Z.out.lt
 have hB0:b<w0.heap.size:=by have:=hb0.size;omega
 have hne:¬b=w.heap.size+1:=by omega
 obtain ⟨x0,x1,x2⟩:=V3.below xV hb0 hB
 obtain ⟨y0,y1,y2⟩:=V3.below yV hb0 hB
 simp only[Nat.zero_mul,Nat.one_mul,Nat.add_zero,Nat.reduceMul]at x0 x1 x2 y0 y1 y2
 go_region_held3 (λV=>V.cell? ⟨b,off,none⟩=some (.int .i64 xk)/\V.cell? ⟨b,off+1,none⟩=some (.int .i64 xn)/\V.cell? ⟨b,off+2,none⟩=some (.string xs)/\V.cell? ⟨b,off+3,none⟩=some (.int .i64 yk)/\V.cell? ⟨b,off+3+1,none⟩=some (.int .i64 yn)/\V.cell? ⟨b,off+3+2,none⟩=some (.string ys)) (first|exact ⟨x0,x1,x2,y0,y1,y2⟩|exact ⟨x0',x1',x2',y0',y1',y2'⟩|exact ⟨set_far (set_far (set_far x0' (.inl hne)) (.inl hne)) (.inl hne),set_far (set_far (set_far x1' (.inl hne)) (.inl hne)) (.inl hne),set_far (set_far (set_far x2' (.inl hne)) (.inl hne)) (.inl hne),set_far (set_far (set_far y0' (.inl hne)) (.inl hne)) (.inl hne),set_far (set_far (set_far y1' (.inl hne)) (.inl hne)) (.inl hne),set_far (set_far (set_far y2' (.inl hne)) (.inl hne)) (.inl hne)⟩) (first|(go_at_call 125;refine (cmp_val ⟨xk,xn,xs⟩ ⟨yk,yn,ys⟩ _).mono ?_;rintro e w1 ⟨rfl,hb1⟩;have hq:=below_undrew hb1;have x0':=bat hq hB0 x0;have x1':=bat hq hB0 x1;have x2':=bat hq hB0 x2;have y0':=bat hq hB0 y0;have y1':=bat hq hB0 y1;have y2':=bat hq hB0 y2;have Z:=hide (Z.out.below hq);have hb0:=below_trans hb0 hq;clear hb1;have hB1:b<w1.heap.size:=Nat.lt_of_lt_of_le hB0 hq.size;generalize hcv:cmpVal ⟨xk,xn,xs⟩ ⟨yk,yn,ys⟩=cv;have HCV:=hide hcv;clear hcv)|(go_at_call 175;refine (boolV_any (decide (cv<=0)) _).mono ?_;rintro e w2 ⟨rfl,hb2⟩;have x0':=bat hb2 hB1 x0';have x1':=bat hb2 hB1 x1';have x2':=bat hb2 hB1 x2';have y0':=bat hb2 hB1 y0';have y1':=bat hb2 hB1 y1';have y2':=bat hb2 hB1 y2';have Z:=hide (Z.out.below hb2);have hb0:=below_trans hb0 hb2;clear hb2;obtain ⟨z0,z1,z2,f0,f1,f2,_⟩:=Z.out;generalize hbv:boolV (decide (cv<=0))=bv;obtain ⟨bk,bn,bs⟩:=bv;have HBV:=hide hbv;clear hbv;simp only[Val.cells]))
 go_wp2
 refine ret3 rfl Z.out rfl rfl ⟨by rw[HV.out,HCV.out,HBV.out],below_set3 hb0 (by omega) _ _ _⟩
theorem ap_19 (zz:List Zone)(kd nu ar:Int)(st nm:ByteArray)(w:World)(b off:Nat)(c:Nat)(xk xn:Int)(xs:ByteArray)(hx:In w (some ⟨b,off,none⟩) 1 c ([⟨xk,xn,xs⟩]:List Val))(hkx:¬xk=0)(A2:Option Addr)(n2 c2:Nat)(hz:In w A2 n2 c2 zz):
  Calls Tryz.prog 145 #[.agg #[.int .i64 19,.int .i64 kd,.int .i64 nu,.string st,.string nm,.int .i64 ar],.slice (some ⟨b,off,none⟩) 1 c,.slice A2 n2 c2] w λe w'=>e=.returned (.agg (opV zz ⟨19,⟨kd,nu,st⟩,nm,ar⟩ ([⟨xk,xn,xs⟩]:List Val)).cells.toArray)/\Below w.heap.size w w':=by
 have HV:Hid (opV zz ⟨19,⟨kd,nu,st⟩,nm,ar⟩ ([⟨xk,xn,xs⟩]:List Val)=numV xs.size true):=hide (by simp only[opV,unV,Int.reduceEq,if_false];rw[if_neg hkx];(try simp only[Int.reduceEq,if_false,if_true]))
 obtain ⟨hB,xV,xok⟩:=val_cells hx (show 0<1 by omega) (x:=⟨xk,xn,xs⟩) rfl
 have HKX:=hide hkx
 clear hkx
 go_enter Tryz.func145,Tryz.ntmps145
 go_upto_region 20 with (fail)
 obtain ⟨w0,hw0,Z,N0,N1,N2,N3,N4, -,hb0⟩:=startN w 19 kd nu ar st nm
 rw[<-hw0]
 clear hw0
 have hn0:w.heap.size<w0.heap.size:=Nat.lt_trans (show w.heap.size<w.heap.size+1 by omega) Z.out.lt
 have hB0:b<w0.heap.size:=by have:=hb0.size;omega
 have hne:¬b=w.heap.size+1:=by omega
 obtain ⟨x0,x1,x2⟩:=V3.below xV hb0 hB
 simp only[Nat.zero_mul,Nat.one_mul,Nat.add_zero,Nat.reduceMul]at x0 x1 x2
 go_wp2_with fail
 refine (numV_any xs.size true _).mono ?_
 rintro e w3 ⟨rfl,hb3⟩
 have Z:=hide (Z.out.below hb3)
 have hb0:=below_trans hb0 hb3
 clear hb3
 obtain ⟨z0,z1,z2,f0,f1,f2,_⟩:=Z.out
 generalize hbv:numV xs.size true=bv
 obtain ⟨bk,bn,bs⟩:=bv
 have HBV:=hide hbv
 clear hbv
 simp only[Val.cells]
 go_wp2
 refine ret3 rfl Z.out rfl rfl ⟨by rw[HV.out,HBV.out],below_set3 hb0 (by omega) _ _ _⟩
theorem ap_20 (zz:List Zone)(kd nu ar:Int)(st nm:ByteArray)(w:World)(b off:Nat)(c:Nat)(xk xn:Int)(xs:ByteArray)(hx:In w (some ⟨b,off,none⟩) 1 c ([⟨xk,xn,xs⟩]:List Val))(hkx:¬xk=0)(A2:Option Addr)(n2 c2:Nat)(hz:In w A2 n2 c2 zz):
  Calls Tryz.prog 145 #[.agg #[.int .i64 20,.int .i64 kd,.int .i64 nu,.string st,.string nm,.int .i64 ar],.slice (some ⟨b,off,none⟩) 1 c,.slice A2 n2 c2] w λe w'=>e=.returned (.agg (opV zz ⟨20,⟨kd,nu,st⟩,nm,ar⟩ ([⟨xk,xn,xs⟩]:List Val)).cells.toArray)/\Below w.heap.size w w':=by
 have HV:Hid (opV zz ⟨20,⟨kd,nu,st⟩,nm,ar⟩ ([⟨xk,xn,xs⟩]:List Val)=numV (dayS (zoneAt zz nm) xn).1 true):=hide (by simp only[opV,unV,Int.reduceEq,if_false];rw[if_neg hkx];(try simp only[Int.reduceEq,if_false,if_true]))
 obtain ⟨hB,xV,xok⟩:=val_cells hx (show 0<1 by omega) (x:=⟨xk,xn,xs⟩) rfl
 have HKX:=hide hkx
 clear hkx
 go_enter Tryz.func145,Tryz.ntmps145
 go_wp2_with fail
 obtain ⟨w0,hw0,Z,N0,N1,N2,N3,N4, -,hb0⟩:=startN w 20 kd nu ar st nm
 rw[<-hw0]
 clear hw0
 have hn0:w.heap.size<w0.heap.size:=Nat.lt_trans (show w.heap.size<w.heap.size+1 by omega) Z.out.lt
 have hB0:b<w0.heap.size:=by have:=hb0.size;omega
 have hne:¬b=w.heap.size+1:=by omega
 obtain ⟨x0,x1,x2⟩:=V3.below xV hb0 hB
 simp only[Nat.zero_mul,Nat.one_mul,Nat.add_zero,Nat.reduceMul]at x0 x1 x2
 refine (find_any _ _ _ _ zz (hz.below hb0) nm).mono ?_
 rintro e w1 ⟨⟨A3,n3,c3,rfl,hin3,ho3⟩,hb1⟩
 have x0:=bat hb1 hB0 x0
 have x1:=bat hb1 hB0 x1
 have x2:=bat hb1 hB0 x2
 have hB0:b<w1.heap.size:=Nat.lt_of_lt_of_le hB0 hb1.size
 have Z:=hide (Z.out.below hb1)
 have hb0:=below_trans hb0 hb1
 have hzl:=Z.out.lt
 clear hb1
 go_wp2
 obtain ⟨w2,hw2⟩: ∃w2,w2=w1.alloc (.cells #[.string (zoneAt zz nm).name,.int .i64 (zoneAt zz nm).offset,.slice A3 n3 c3] 101):=⟨_,rfl⟩
 have d0:w2.cell? ⟨w1.heap.size,0,none⟩=some (.string (zoneAt zz nm).name):=by rw[hw2];simp[go_sem]
 have d1:w2.cell? ⟨w1.heap.size,1,none⟩=some (.int .i64 (zoneAt zz nm).offset):=by rw[hw2];simp[go_sem]
 have d2:w2.cell? ⟨w1.heap.size,2,none⟩=some (.slice A3 n3 c3):=by rw[hw2];simp[go_sem]
 have hb2:Below w1.heap.size w1 w2:=by rw[hw2];exact below_alloc
 rw[<-hw2]
 clear hw2
 have x0:=bat hb2 hB0 x0
 have x1:=bat hb2 hB0 x1
 have x2:=bat hb2 hB0 x2
 have hB0:b<w2.heap.size:=Nat.lt_of_lt_of_le hB0 hb2.size
 have Z:=hide (Z.out.below hb2)
 have hin4:=hin3.below hb2
 have hb0:=below_trans hb0 hb2
 have hl2:w1.heap.size<w2.heap.size:=lt_of_cell d0
 clear hb2 hin3
 go_region_held3 (λV=>V.cell? ⟨b,off+1,none⟩=some (.int .i64 xn)/\V.cell? ⟨w1.heap.size,0,none⟩=some (.string (zoneAt zz nm).name)/\V.cell? ⟨w1.heap.size,1,none⟩=some (.int .i64 (zoneAt zz nm).offset)/\V.cell? ⟨w1.heap.size,2,none⟩=some (.slice A3 n3 c3)) (first|exact ⟨x1,d0,d1,d2⟩|exact ⟨x1',d0',d1',d2'⟩) (first|(go_at_call 179;refine (day_any _ A3 n3 c3 (zoneAt zz nm) (hin4.below (Below.refl _ _).drew) ho3 xn).mono ?_;rintro e w3 ⟨rfl,hb3⟩;have hq:=below_undrew hb3;have x1':=bat hq hB0 x1;have d0':=bat hq hl2 d0;have d1':=bat hq hl2 d1;have d2':=bat hq hl2 d2;have Z:=hide (Z.out.below hq);have hb0:=below_trans hb0 hq;clear hb3))
 go_wp2_with fail
 refine (numV_any (dayS (zoneAt zz nm) xn).1 true _).mono ?_
 rintro e w3 ⟨rfl,hb3⟩
 have Z:=hide (Z.out.below hb3)
 have hb0:=below_trans hb0 hb3
 clear hb3
 obtain ⟨z0,z1,z2,f0,f1,f2,_⟩:=Z.out
 generalize hbv:numV (dayS (zoneAt zz nm) xn).1 true=bv
 obtain ⟨bk,bn,bs⟩:=bv
 have HBV:=hide hbv
 clear hbv
 simp only[Val.cells]
 go_wp2
 refine ret3 rfl Z.out rfl rfl ⟨by rw[HV.out,HBV.out],below_set3 hb0 (by omega) _ _ _⟩
theorem ap_ar (op:Int)(zz:List Zone)(kd nu ar:Int)(st nm:ByteArray)(w:World)(b off:Nat)(c:Nat)(xk xn yk yn:Int)(xs ys:ByteArray)(hx:In w (some ⟨b,off,none⟩) 2 c ([⟨xk,xn,xs⟩,⟨yk,yn,ys⟩]:List Val))(hkx:¬xk=0)(hky:¬yk=0)(hop:4<=op/\op<=8)(hx30:Bnd30 xn)(hy30:Bnd30 yn)(A2:Option Addr)(n2 c2:Nat)(hz:In w A2 n2 c2 zz):
  Calls Tryz.prog 145 #[.agg #[.int .i64 op,.int .i64 kd,.int .i64 nu,.string st,.string nm,.int .i64 ar],.slice (some ⟨b,off,none⟩) 2 c,.slice A2 n2 c2] w λe w'=>e=.returned (.agg (opV zz ⟨op,⟨kd,nu,st⟩,nm,ar⟩ ([⟨xk,xn,xs⟩,⟨yk,yn,ys⟩]:List Val)).cells.toArray)/\Below w.heap.size w w':=by
 have HV:Hid (opV zz ⟨op,⟨kd,nu,st⟩,nm,ar⟩ ([⟨xk,xn,xs⟩,⟨yk,yn,ys⟩]:List Val)=arithV op ⟨xk,xn,xs⟩ ⟨yk,yn,ys⟩):=hide (by simp only[opV];rw[if_neg (by omega),if_neg (by omega),if_neg (by omega),if_neg (by rintro (h|h);exact hkx h;exact hky h),binV,if_neg (by omega),if_neg (by omega),if_neg (by omega),if_neg (by omega),if_neg (by omega)])
 obtain ⟨hB,xV,xok⟩:=val_cells hx (show 0<2 by omega) (x:=⟨xk,xn,xs⟩) rfl
 obtain ⟨hB,yV,yok⟩:=val_cells hx (show 1<2 by omega) (x:=⟨yk,yn,ys⟩) rfl
 have HKX:=hide hkx
 clear hkx
 have HKY:=hide hky
 clear hky
 have e2:(op==2)=false:=by simp;omega
 have e3:(op==3)=false:=by simp;omega
 have e9:(op==9)=false:=by simp;omega
 have e10:(op==10)=false:=by simp;omega
 have e11:(op==11)=false:=by simp;omega
 have e12:(op==12)=false:=by simp;omega
 have e13:(op==13)=false:=by simp;omega
 have e19:(op==19)=false:=by simp;omega
 have e20:(op==20)=false:=by simp;omega
 have HOP:=hide hop
 clear hop
 go_enter Tryz.func145,Tryz.ntmps145
 go_wp2
 obtain ⟨w0,hw0,Z,N0,N1,N2,N3,N4, -,hb0⟩:=startN w op kd nu ar st nm
 rw[<-hw0]
 clear hw0
 have hn0:w.heap.size<w0.heap.size:=Nat.lt_trans (show w.heap.size<w.heap.size+1 by omega) Z.out.lt
 have hB0:b<w0.heap.size:=by have:=hb0.size;omega
 have hne:¬b=w.heap.size+1:=by omega
 obtain ⟨x0,x1,x2⟩:=V3.below xV hb0 hB
 obtain ⟨y0,y1,y2⟩:=V3.below yV hb0 hB
 simp only[Nat.zero_mul,Nat.one_mul,Nat.add_zero,Nat.reduceMul]at x0 x1 x2 y0 y1 y2
 have hnn:¬w.heap.size=w.heap.size+1:=by omega
 go_region_held3 (λV=>V.cell? ⟨b,off,none⟩=some (.int .i64 xk)/\V.cell? ⟨b,off+1,none⟩=some (.int .i64 xn)/\V.cell? ⟨b,off+2,none⟩=some (.string xs)/\V.cell? ⟨b,off+3,none⟩=some (.int .i64 yk)/\V.cell? ⟨b,off+3+1,none⟩=some (.int .i64 yn)/\V.cell? ⟨b,off+3+2,none⟩=some (.string ys)/\V.cell? ⟨w.heap.size,0,none⟩=some (.int .i64 op)) (first|exact ⟨x0,x1,x2,y0,y1,y2,N0⟩|exact ⟨x0',x1',x2',y0',y1',y2',N0'⟩|exact ⟨set_far (set_far (set_far x0' (.inl hne)) (.inl hne)) (.inl hne),set_far (set_far (set_far x1' (.inl hne)) (.inl hne)) (.inl hne),set_far (set_far (set_far x2' (.inl hne)) (.inl hne)) (.inl hne),set_far (set_far (set_far y0' (.inl hne)) (.inl hne)) (.inl hne),set_far (set_far (set_far y1' (.inl hne)) (.inl hne)) (.inl hne),set_far (set_far (set_far y2' (.inl hne)) (.inl hne)) (.inl hne),set_far (set_far (set_far N0' (.inl hnn)) (.inl hnn)) (.inl hnn)⟩) (first|(go_at_call 180;refine (arith_any op HOP.out ⟨xk,xn,xs⟩ ⟨yk,yn,ys⟩ hx30 hy30 _).mono ?_;rintro e w1 ⟨rfl,hb1⟩;have hq:=below_undrew hb1;have x0':=bat hq hB0 x0;have x1':=bat hq hB0 x1;have x2':=bat hq hB0 x2;have y0':=bat hq hB0 y0;have y1':=bat hq hB0 y1;have y2':=bat hq hB0 y2;have N0':=bat hq hn0 N0;have Z:=hide (Z.out.below hq);have hb0:=below_trans hb0 hq;clear hb1;obtain ⟨z0,z1,z2,f0,f1,f2,_⟩:=Z.out;generalize hbv:arithV op ⟨xk,xn,xs⟩ ⟨yk,yn,ys⟩=bv;obtain ⟨bk,bn,bs⟩:=bv;have HBV:=hide hbv;clear hbv;simp only[Val.cells]))
 go_wp2
 refine ret3 rfl Z.out rfl rfl ⟨by rw[HV.out,HBV.out],below_set3 hb0 (by omega) _ _ _⟩
end Go.Proofs.YtggejcekmehocaaGreatDoor
