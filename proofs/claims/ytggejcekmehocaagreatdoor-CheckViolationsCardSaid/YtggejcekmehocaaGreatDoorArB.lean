/-
  warehouseref9.calculate: it returns binV. (Printed by gen_arv.py.)
-/
import Derived.Test.YtggejcekmehocaaGreatDoorGag
import Derived.Test.YtggejcekmehocaaGreatDoorGac
namespace Go.Proofs.YtggejcekmehocaaGreatDoor
set_option maxHeartbeats 2000000
set_option maxRecDepth 100000
open Go.RowKit
set_option linter.unusedSimpArgs false
set_option linter.unusedVariables false
theorem QX (xk xn yk yn:Int)(xs ys:ByteArray)(hx:az xn)(hy:az yn)(hk:(xk==4)=true)(w:World):
  Calls Tryz.prog 225 #[.int .i64 4,.agg #[.int .i64 xk,.int .i64 xn,.string xs],.agg #[.int .i64 yk,.int .i64 yn,.string ys]] w λe w'=>e=.returned (.agg (dY 4 ⟨xk,xn,xs⟩ ⟨yk,yn,ys⟩).cells.toArray)/\Below w.heap.size w w':=by
 have HV:Hid (dY 4 ⟨xk,xn,xs⟩ ⟨yk,yn,ys⟩=lY (xn+yn)):=hide (by simp only[dY,bQ,Int.reduceEq,or_self,or_false,false_or,or_true,true_or,if_false,if_true];rw[if_pos (by simpa using hk)])
 have w1:IntKind.i64.wrap (xn+yn)=xn+yn:=IntWalk.i64_in _ (by unfold az at hx hy;omega)
 have w2:IntKind.i64.wrap (xn-yn)=xn-yn:=IntWalk.i64_in _ (by unfold az at hx hy;omega)
 have HX:=hide hx
 have HY:=hide hy
 clear hx hy
 go_enter Tryz.func225,Tryz.ntmps225
 go_wp2_with fail
 obtain ⟨w0,hw0,X,Y,Z,hb0⟩:=fE w xk xn yk yn xs ys
 rw[<-hw0]
 clear hw0
 have hzx:w.heap.size<w0.heap.size:=Nat.lt_trans (show w.heap.size<w.heap.size+1+1 by omega) Z.out.lt
 have fe:w.heap.size+1<w0.heap.size:=Nat.lt_trans (show w.heap.size+1<w.heap.size+1+1 by omega) Z.out.lt
 refine (dG ⟨xk,xn,xs⟩ ⟨yk,yn,ys⟩ _).mono ?_
 rintro e w1 ⟨rfl,hb1⟩
 obtain ⟨x0,x1,x2⟩:=X
 obtain ⟨y0,y1,y2⟩:=Y
 simp only[Nat.zero_add]at x1 x2 y1 y2
 have x0:=ah hb1 hzx x0
 have x1:=ah hb1 hzx x1
 have x2:=ah hb1 hzx x2
 have y0:=ah hb1 fe y0
 have y1:=ah hb1 fe y1
 have y2:=ah hb1 fe y2
 have Z:=hide (Z.out.below hb1)
 have hb0:=aa hb0 hb1
 clear hb1 hzx fe
 generalize hcv:bf ⟨xk,xn,xs⟩ ⟨yk,yn,ys⟩=cv
 have yl:=hide hcv
 clear hcv
 go_wp2_with fail
 refine (EH (xn+yn) _).mono ?_
 rintro e w3 ⟨rfl,hb3⟩
 have Z:=hide (Z.out.below hb3)
 have hb0:=aa hb0 hb3
 clear hb3
 obtain ⟨z0,z1,z2,f0,f1,f2,_⟩:=Z.out
 generalize hbv:lY (xn+yn)=bv
 obtain ⟨bk,bn,bs⟩:=bv
 have fo:=hide hbv
 clear hbv
 simp only[Val.cells]
 go_wp2
 refine gH rfl Z.out rfl rfl ⟨by rw[HV.out,fo.out],au hb0 (by omega) _ _ _⟩
theorem QW (xk xn yk yn:Int)(xs ys:ByteArray)(hx:az xn)(hy:az yn)(hk:(xk==4)=false)(w:World):
  Calls Tryz.prog 225 #[.int .i64 4,.agg #[.int .i64 xk,.int .i64 xn,.string xs],.agg #[.int .i64 yk,.int .i64 yn,.string ys]] w λe w'=>e=.returned (.agg (dY 4 ⟨xk,xn,xs⟩ ⟨yk,yn,ys⟩).cells.toArray)/\Below w.heap.size w w':=by
 have HV:Hid (dY 4 ⟨xk,xn,xs⟩ ⟨yk,yn,ys⟩=ed (pg xn yn).1 (pg xn yn).2):=hide (by simp only[dY,bQ,Int.reduceEq,or_self,or_false,false_or,or_true,true_or,if_false,if_true];rw[if_neg (by simpa using hk)])
 have w1:IntKind.i64.wrap (xn+yn)=xn+yn:=IntWalk.i64_in _ (by unfold az at hx hy;omega)
 have w2:IntKind.i64.wrap (xn-yn)=xn-yn:=IntWalk.i64_in _ (by unfold az at hx hy;omega)
 have HX:=hide hx
 have HY:=hide hy
 clear hx hy
 go_enter Tryz.func225,Tryz.ntmps225
 go_wp2_with fail
 obtain ⟨w0,hw0,X,Y,Z,hb0⟩:=fE w xk xn yk yn xs ys
 rw[<-hw0]
 clear hw0
 have hzx:w.heap.size<w0.heap.size:=Nat.lt_trans (show w.heap.size<w.heap.size+1+1 by omega) Z.out.lt
 have fe:w.heap.size+1<w0.heap.size:=Nat.lt_trans (show w.heap.size+1<w.heap.size+1+1 by omega) Z.out.lt
 refine (dG ⟨xk,xn,xs⟩ ⟨yk,yn,ys⟩ _).mono ?_
 rintro e w1 ⟨rfl,hb1⟩
 obtain ⟨x0,x1,x2⟩:=X
 obtain ⟨y0,y1,y2⟩:=Y
 simp only[Nat.zero_add]at x1 x2 y1 y2
 have x0:=ah hb1 hzx x0
 have x1:=ah hb1 hzx x1
 have x2:=ah hb1 hzx x2
 have y0:=ah hb1 fe y0
 have y1:=ah hb1 fe y1
 have y2:=ah hb1 fe y2
 have Z:=hide (Z.out.below hb1)
 have hb0:=aa hb0 hb1
 clear hb1 hzx fe
 generalize hcv:bf ⟨xk,xn,xs⟩ ⟨yk,yn,ys⟩=cv
 have yl:=hide hcv
 clear hcv
 go_wp2_with fail
 refine (N8 xn yn HX.out HY.out _).mono ?_
 rintro e w' ⟨rfl,rfl⟩
 go_wp2_with fail
 refine (kF _ _ _).mono ?_
 rintro e w3 ⟨rfl,hb3⟩
 have Z:=hide (Z.out.below hb3)
 have hb0:=aa hb0 hb3
 clear hb3
 obtain ⟨z0,z1,z2,f0,f1,f2,_⟩:=Z.out
 generalize hbv:ed (pg xn yn).1 (pg xn yn).2=bv
 obtain ⟨bk,bn,bs⟩:=bv
 have fo:=hide hbv
 clear hbv
 simp only[Val.cells]
 go_wp2
 refine gH rfl Z.out rfl rfl ⟨by rw[HV.out,fo.out],au hb0 (by omega) _ _ _⟩
theorem Q0 (xk xn yk yn:Int)(xs ys:ByteArray)(hx:az xn)(hy:az yn)(hk:(xk==4)=true)(hk2:(yk==2)=true)(w:World):
  Calls Tryz.prog 225 #[.int .i64 5,.agg #[.int .i64 xk,.int .i64 xn,.string xs],.agg #[.int .i64 yk,.int .i64 yn,.string ys]] w λe w'=>e=.returned (.agg (dY 5 ⟨xk,xn,xs⟩ ⟨yk,yn,ys⟩).cells.toArray)/\Below w.heap.size w w':=by
 have HV:Hid (dY 5 ⟨xk,xn,xs⟩ ⟨yk,yn,ys⟩=lY (xn-yn)):=hide (by simp only[dY,bQ,Int.reduceEq,or_self,or_false,false_or,or_true,true_or,if_false,if_true];rw[if_pos ⟨by simpa using hk,by simpa using hk2⟩])
 have w1:IntKind.i64.wrap (xn+yn)=xn+yn:=IntWalk.i64_in _ (by unfold az at hx hy;omega)
 have w2:IntKind.i64.wrap (xn-yn)=xn-yn:=IntWalk.i64_in _ (by unfold az at hx hy;omega)
 have HX:=hide hx
 have HY:=hide hy
 clear hx hy
 go_enter Tryz.func225,Tryz.ntmps225
 go_wp2_with fail
 obtain ⟨w0,hw0,X,Y,Z,hb0⟩:=fE w xk xn yk yn xs ys
 rw[<-hw0]
 clear hw0
 have hzx:w.heap.size<w0.heap.size:=Nat.lt_trans (show w.heap.size<w.heap.size+1+1 by omega) Z.out.lt
 have fe:w.heap.size+1<w0.heap.size:=Nat.lt_trans (show w.heap.size+1<w.heap.size+1+1 by omega) Z.out.lt
 refine (dG ⟨xk,xn,xs⟩ ⟨yk,yn,ys⟩ _).mono ?_
 rintro e w1 ⟨rfl,hb1⟩
 obtain ⟨x0,x1,x2⟩:=X
 obtain ⟨y0,y1,y2⟩:=Y
 simp only[Nat.zero_add]at x1 x2 y1 y2
 have x0:=ah hb1 hzx x0
 have x1:=ah hb1 hzx x1
 have x2:=ah hb1 hzx x2
 have y0:=ah hb1 fe y0
 have y1:=ah hb1 fe y1
 have y2:=ah hb1 fe y2
 have Z:=hide (Z.out.below hb1)
 have hb0:=aa hb0 hb1
 clear hb1 hzx fe
 generalize hcv:bf ⟨xk,xn,xs⟩ ⟨yk,yn,ys⟩=cv
 have yl:=hide hcv
 clear hcv
 go_wp2_with fail
 refine (EH (xn-yn) _).mono ?_
 rintro e w3 ⟨rfl,hb3⟩
 have Z:=hide (Z.out.below hb3)
 have hb0:=aa hb0 hb3
 clear hb3
 obtain ⟨z0,z1,z2,f0,f1,f2,_⟩:=Z.out
 generalize hbv:lY (xn-yn)=bv
 obtain ⟨bk,bn,bs⟩:=bv
 have fo:=hide hbv
 clear hbv
 simp only[Val.cells]
 go_wp2
 refine gH rfl Z.out rfl rfl ⟨by rw[HV.out,fo.out],au hb0 (by omega) _ _ _⟩
theorem QZ (xk xn yk yn:Int)(xs ys:ByteArray)(hx:az xn)(hy:az yn)(hk:(xk==4)=false)(w:World):
  Calls Tryz.prog 225 #[.int .i64 5,.agg #[.int .i64 xk,.int .i64 xn,.string xs],.agg #[.int .i64 yk,.int .i64 yn,.string ys]] w λe w'=>e=.returned (.agg (dY 5 ⟨xk,xn,xs⟩ ⟨yk,yn,ys⟩).cells.toArray)/\Below w.heap.size w w':=by
 have HV:Hid (dY 5 ⟨xk,xn,xs⟩ ⟨yk,yn,ys⟩=ed (iD xn yn).1 (iD xn yn).2):=hide (by simp only[dY,bQ,Int.reduceEq,or_self,or_false,false_or,or_true,true_or,if_false,if_true];rw[if_neg (λh=>by simp[h.1]at hk)])
 have w1:IntKind.i64.wrap (xn+yn)=xn+yn:=IntWalk.i64_in _ (by unfold az at hx hy;omega)
 have w2:IntKind.i64.wrap (xn-yn)=xn-yn:=IntWalk.i64_in _ (by unfold az at hx hy;omega)
 have HX:=hide hx
 have HY:=hide hy
 clear hx hy
 go_enter Tryz.func225,Tryz.ntmps225
 go_wp2_with fail
 obtain ⟨w0,hw0,X,Y,Z,hb0⟩:=fE w xk xn yk yn xs ys
 rw[<-hw0]
 clear hw0
 have hzx:w.heap.size<w0.heap.size:=Nat.lt_trans (show w.heap.size<w.heap.size+1+1 by omega) Z.out.lt
 have fe:w.heap.size+1<w0.heap.size:=Nat.lt_trans (show w.heap.size+1<w.heap.size+1+1 by omega) Z.out.lt
 refine (dG ⟨xk,xn,xs⟩ ⟨yk,yn,ys⟩ _).mono ?_
 rintro e w1 ⟨rfl,hb1⟩
 obtain ⟨x0,x1,x2⟩:=X
 obtain ⟨y0,y1,y2⟩:=Y
 simp only[Nat.zero_add]at x1 x2 y1 y2
 have x0:=ah hb1 hzx x0
 have x1:=ah hb1 hzx x1
 have x2:=ah hb1 hzx x2
 have y0:=ah hb1 fe y0
 have y1:=ah hb1 fe y1
 have y2:=ah hb1 fe y2
 have Z:=hide (Z.out.below hb1)
 have hb0:=aa hb0 hb1
 clear hb1 hzx fe
 generalize hcv:bf ⟨xk,xn,xs⟩ ⟨yk,yn,ys⟩=cv
 have yl:=hide hcv
 clear hcv
 go_wp2_with fail
 refine (Dl xn yn HX.out HY.out _).mono ?_
 rintro e w' ⟨rfl,rfl⟩
 go_wp2_with fail
 refine (kF _ _ _).mono ?_
 rintro e w3 ⟨rfl,hb3⟩
 have Z:=hide (Z.out.below hb3)
 have hb0:=aa hb0 hb3
 clear hb3
 obtain ⟨z0,z1,z2,f0,f1,f2,_⟩:=Z.out
 generalize hbv:ed (iD xn yn).1 (iD xn yn).2=bv
 obtain ⟨bk,bn,bs⟩:=bv
 have fo:=hide hbv
 clear hbv
 simp only[Val.cells]
 go_wp2
 refine gH rfl Z.out rfl rfl ⟨by rw[HV.out,fo.out],au hb0 (by omega) _ _ _⟩
theorem QY (xk xn yk yn:Int)(xs ys:ByteArray)(hx:az xn)(hy:az yn)(hk:(xk==4)=true)(hk2:(yk==2)=false)(w:World):
  Calls Tryz.prog 225 #[.int .i64 5,.agg #[.int .i64 xk,.int .i64 xn,.string xs],.agg #[.int .i64 yk,.int .i64 yn,.string ys]] w λe w'=>e=.returned (.agg (dY 5 ⟨xk,xn,xs⟩ ⟨yk,yn,ys⟩).cells.toArray)/\Below w.heap.size w w':=by
 have HV:Hid (dY 5 ⟨xk,xn,xs⟩ ⟨yk,yn,ys⟩=ed (iD xn yn).1 (iD xn yn).2):=hide (by simp only[dY,bQ,Int.reduceEq,or_self,or_false,false_or,or_true,true_or,if_false,if_true];rw[if_neg (λh=>by simp[h.2]at hk2)])
 have w1:IntKind.i64.wrap (xn+yn)=xn+yn:=IntWalk.i64_in _ (by unfold az at hx hy;omega)
 have w2:IntKind.i64.wrap (xn-yn)=xn-yn:=IntWalk.i64_in _ (by unfold az at hx hy;omega)
 have HX:=hide hx
 have HY:=hide hy
 clear hx hy
 go_enter Tryz.func225,Tryz.ntmps225
 go_wp2_with fail
 obtain ⟨w0,hw0,X,Y,Z,hb0⟩:=fE w xk xn yk yn xs ys
 rw[<-hw0]
 clear hw0
 have hzx:w.heap.size<w0.heap.size:=Nat.lt_trans (show w.heap.size<w.heap.size+1+1 by omega) Z.out.lt
 have fe:w.heap.size+1<w0.heap.size:=Nat.lt_trans (show w.heap.size+1<w.heap.size+1+1 by omega) Z.out.lt
 refine (dG ⟨xk,xn,xs⟩ ⟨yk,yn,ys⟩ _).mono ?_
 rintro e w1 ⟨rfl,hb1⟩
 obtain ⟨x0,x1,x2⟩:=X
 obtain ⟨y0,y1,y2⟩:=Y
 simp only[Nat.zero_add]at x1 x2 y1 y2
 have x0:=ah hb1 hzx x0
 have x1:=ah hb1 hzx x1
 have x2:=ah hb1 hzx x2
 have y0:=ah hb1 fe y0
 have y1:=ah hb1 fe y1
 have y2:=ah hb1 fe y2
 have Z:=hide (Z.out.below hb1)
 have hb0:=aa hb0 hb1
 clear hb1 hzx fe
 generalize hcv:bf ⟨xk,xn,xs⟩ ⟨yk,yn,ys⟩=cv
 have yl:=hide hcv
 clear hcv
 go_wp2_with fail
 refine (Dl xn yn HX.out HY.out _).mono ?_
 rintro e w' ⟨rfl,rfl⟩
 go_wp2_with fail
 refine (kF _ _ _).mono ?_
 rintro e w3 ⟨rfl,hb3⟩
 have Z:=hide (Z.out.below hb3)
 have hb0:=aa hb0 hb3
 clear hb3
 obtain ⟨z0,z1,z2,f0,f1,f2,_⟩:=Z.out
 generalize hbv:ed (iD xn yn).1 (iD xn yn).2=bv
 obtain ⟨bk,bn,bs⟩:=bv
 have fo:=hide hbv
 clear hbv
 simp only[Val.cells]
 go_wp2
 refine gH rfl Z.out rfl rfl ⟨by rw[HV.out,fo.out],au hb0 (by omega) _ _ _⟩
theorem TU (xk xn yk yn:Int)(xs ys:ByteArray)(hx:az xn)(hy:az yn)(w:World):
  Calls Tryz.prog 225 #[.int .i64 6,.agg #[.int .i64 xk,.int .i64 xn,.string xs],.agg #[.int .i64 yk,.int .i64 yn,.string ys]] w λe w'=>e=.returned (.agg (dY 6 ⟨xk,xn,xs⟩ ⟨yk,yn,ys⟩).cells.toArray)/\Below w.heap.size w w':=by
 have HV:Hid (dY 6 ⟨xk,xn,xs⟩ ⟨yk,yn,ys⟩=ed (pQ xn yn).1 (pQ xn yn).2):=hide (by simp only[dY,bQ,Int.reduceEq,or_self,or_false,false_or,or_true,true_or,if_false,if_true])
 have w1:IntKind.i64.wrap (xn+yn)=xn+yn:=IntWalk.i64_in _ (by unfold az at hx hy;omega)
 have w2:IntKind.i64.wrap (xn-yn)=xn-yn:=IntWalk.i64_in _ (by unfold az at hx hy;omega)
 have HX:=hide hx
 have HY:=hide hy
 clear hx hy
 go_enter Tryz.func225,Tryz.ntmps225
 go_wp2_with fail
 obtain ⟨w0,hw0,X,Y,Z,hb0⟩:=fE w xk xn yk yn xs ys
 rw[<-hw0]
 clear hw0
 have hzx:w.heap.size<w0.heap.size:=Nat.lt_trans (show w.heap.size<w.heap.size+1+1 by omega) Z.out.lt
 have fe:w.heap.size+1<w0.heap.size:=Nat.lt_trans (show w.heap.size+1<w.heap.size+1+1 by omega) Z.out.lt
 refine (dG ⟨xk,xn,xs⟩ ⟨yk,yn,ys⟩ _).mono ?_
 rintro e w1 ⟨rfl,hb1⟩
 obtain ⟨x0,x1,x2⟩:=X
 obtain ⟨y0,y1,y2⟩:=Y
 simp only[Nat.zero_add]at x1 x2 y1 y2
 have x0:=ah hb1 hzx x0
 have x1:=ah hb1 hzx x1
 have x2:=ah hb1 hzx x2
 have y0:=ah hb1 fe y0
 have y1:=ah hb1 fe y1
 have y2:=ah hb1 fe y2
 have Z:=hide (Z.out.below hb1)
 have hb0:=aa hb0 hb1
 clear hb1 hzx fe
 generalize hcv:bf ⟨xk,xn,xs⟩ ⟨yk,yn,ys⟩=cv
 have yl:=hide hcv
 clear hcv
 go_wp2_with fail
 refine (Ph xn yn HX.out HY.out _).mono ?_
 rintro e w' ⟨rfl,rfl⟩
 go_wp2_with fail
 refine (kF _ _ _).mono ?_
 rintro e w3 ⟨rfl,hb3⟩
 have Z:=hide (Z.out.below hb3)
 have hb0:=aa hb0 hb3
 clear hb3
 obtain ⟨z0,z1,z2,f0,f1,f2,_⟩:=Z.out
 generalize hbv:ed (pQ xn yn).1 (pQ xn yn).2=bv
 obtain ⟨bk,bn,bs⟩:=bv
 have fo:=hide hbv
 clear hbv
 simp only[Val.cells]
 go_wp2
 refine gH rfl Z.out rfl rfl ⟨by rw[HV.out,fo.out],au hb0 (by omega) _ _ _⟩
theorem TV (xk xn yk yn:Int)(xs ys:ByteArray)(hx:az xn)(hy:az yn)(w:World):
  Calls Tryz.prog 225 #[.int .i64 7,.agg #[.int .i64 xk,.int .i64 xn,.string xs],.agg #[.int .i64 yk,.int .i64 yn,.string ys]] w λe w'=>e=.returned (.agg (dY 7 ⟨xk,xn,xs⟩ ⟨yk,yn,ys⟩).cells.toArray)/\Below w.heap.size w w':=by
 have HV:Hid (dY 7 ⟨xk,xn,xs⟩ ⟨yk,yn,ys⟩=ed (lU xn yn).1 (lU xn yn).2):=hide (by simp only[dY,bQ,Int.reduceEq,or_self,or_false,false_or,or_true,true_or,if_false,if_true])
 have w1:IntKind.i64.wrap (xn+yn)=xn+yn:=IntWalk.i64_in _ (by unfold az at hx hy;omega)
 have w2:IntKind.i64.wrap (xn-yn)=xn-yn:=IntWalk.i64_in _ (by unfold az at hx hy;omega)
 have HX:=hide hx
 have HY:=hide hy
 clear hx hy
 go_enter Tryz.func225,Tryz.ntmps225
 go_wp2_with fail
 obtain ⟨w0,hw0,X,Y,Z,hb0⟩:=fE w xk xn yk yn xs ys
 rw[<-hw0]
 clear hw0
 have hzx:w.heap.size<w0.heap.size:=Nat.lt_trans (show w.heap.size<w.heap.size+1+1 by omega) Z.out.lt
 have fe:w.heap.size+1<w0.heap.size:=Nat.lt_trans (show w.heap.size+1<w.heap.size+1+1 by omega) Z.out.lt
 refine (dG ⟨xk,xn,xs⟩ ⟨yk,yn,ys⟩ _).mono ?_
 rintro e w1 ⟨rfl,hb1⟩
 obtain ⟨x0,x1,x2⟩:=X
 obtain ⟨y0,y1,y2⟩:=Y
 simp only[Nat.zero_add]at x1 x2 y1 y2
 have x0:=ah hb1 hzx x0
 have x1:=ah hb1 hzx x1
 have x2:=ah hb1 hzx x2
 have y0:=ah hb1 fe y0
 have y1:=ah hb1 fe y1
 have y2:=ah hb1 fe y2
 have Z:=hide (Z.out.below hb1)
 have hb0:=aa hb0 hb1
 clear hb1 hzx fe
 generalize hcv:bf ⟨xk,xn,xs⟩ ⟨yk,yn,ys⟩=cv
 have yl:=hide hcv
 clear hcv
 go_wp2_with fail
 refine (Cq xn yn HX.out HY.out _).mono ?_
 rintro e w' ⟨rfl,rfl⟩
 go_wp2_with fail
 refine (kF _ _ _).mono ?_
 rintro e w3 ⟨rfl,hb3⟩
 have Z:=hide (Z.out.below hb3)
 have hb0:=aa hb0 hb3
 clear hb3
 obtain ⟨z0,z1,z2,f0,f1,f2,_⟩:=Z.out
 generalize hbv:ed (lU xn yn).1 (lU xn yn).2=bv
 obtain ⟨bk,bn,bs⟩:=bv
 have fo:=hide hbv
 clear hbv
 simp only[Val.cells]
 go_wp2
 refine gH rfl Z.out rfl rfl ⟨by rw[HV.out,fo.out],au hb0 (by omega) _ _ _⟩
theorem TW (xk xn yk yn:Int)(xs ys:ByteArray)(hx:az xn)(hy:az yn)(w:World):
  Calls Tryz.prog 225 #[.int .i64 8,.agg #[.int .i64 xk,.int .i64 xn,.string xs],.agg #[.int .i64 yk,.int .i64 yn,.string ys]] w λe w'=>e=.returned (.agg (dY 8 ⟨xk,xn,xs⟩ ⟨yk,yn,ys⟩).cells.toArray)/\Below w.heap.size w w':=by
 have HV:Hid (dY 8 ⟨xk,xn,xs⟩ ⟨yk,yn,ys⟩=ed (mi xn yn).1 (mi xn yn).2):=hide (by simp only[dY,bQ,Int.reduceEq,or_self,or_false,false_or,or_true,true_or,if_false,if_true])
 have w1:IntKind.i64.wrap (xn+yn)=xn+yn:=IntWalk.i64_in _ (by unfold az at hx hy;omega)
 have w2:IntKind.i64.wrap (xn-yn)=xn-yn:=IntWalk.i64_in _ (by unfold az at hx hy;omega)
 have HX:=hide hx
 have HY:=hide hy
 clear hx hy
 go_enter Tryz.func225,Tryz.ntmps225
 go_wp2_with fail
 obtain ⟨w0,hw0,X,Y,Z,hb0⟩:=fE w xk xn yk yn xs ys
 rw[<-hw0]
 clear hw0
 have hzx:w.heap.size<w0.heap.size:=Nat.lt_trans (show w.heap.size<w.heap.size+1+1 by omega) Z.out.lt
 have fe:w.heap.size+1<w0.heap.size:=Nat.lt_trans (show w.heap.size+1<w.heap.size+1+1 by omega) Z.out.lt
 refine (dG ⟨xk,xn,xs⟩ ⟨yk,yn,ys⟩ _).mono ?_
 rintro e w1 ⟨rfl,hb1⟩
 obtain ⟨x0,x1,x2⟩:=X
 obtain ⟨y0,y1,y2⟩:=Y
 simp only[Nat.zero_add]at x1 x2 y1 y2
 have x0:=ah hb1 hzx x0
 have x1:=ah hb1 hzx x1
 have x2:=ah hb1 hzx x2
 have y0:=ah hb1 fe y0
 have y1:=ah hb1 fe y1
 have y2:=ah hb1 fe y2
 have Z:=hide (Z.out.below hb1)
 have hb0:=aa hb0 hb1
 clear hb1 hzx fe
 generalize hcv:bf ⟨xk,xn,xs⟩ ⟨yk,yn,ys⟩=cv
 have yl:=hide hcv
 clear hcv
 go_wp2_with fail
 refine (Pf xn yn HX.out HY.out _).mono ?_
 rintro e w' ⟨rfl,rfl⟩
 go_wp2_with fail
 refine (kF _ _ _).mono ?_
 rintro e w3 ⟨rfl,hb3⟩
 have Z:=hide (Z.out.below hb3)
 have hb0:=aa hb0 hb3
 clear hb3
 obtain ⟨z0,z1,z2,f0,f1,f2,_⟩:=Z.out
 generalize hbv:ed (mi xn yn).1 (mi xn yn).2=bv
 obtain ⟨bk,bn,bs⟩:=bv
 have fo:=hide hbv
 clear hbv
 simp only[Val.cells]
 go_wp2
 refine gH rfl Z.out rfl rfl ⟨by rw[HV.out,fo.out],au hb0 (by omega) _ _ _⟩
theorem Q4 (xk xn yk yn:Int)(xs ys:ByteArray)(hx:az xn)(hy:az yn)(hsx:xs.size<=64)(hsy:ys.size<=64)(hl:64<(xs++ys).size)(w:World):
  Calls Tryz.prog 225 #[.int .i64 9,.agg #[.int .i64 xk,.int .i64 xn,.string xs],.agg #[.int .i64 yk,.int .i64 yn,.string ys]] w λe w'=>e=.returned (.agg (dY 9 ⟨xk,xn,xs⟩ ⟨yk,yn,ys⟩).cells.toArray)/\Below w.heap.size w w':=by
 have HV:Hid (dY 9 ⟨xk,xn,xs⟩ ⟨yk,yn,ys⟩=aW):=hide (by simp only[dY,Int.reduceEq,or_self,or_false,false_or,or_true,true_or,if_false,if_true];rw[if_pos hl])
 have w1:IntKind.i64.wrap (xn+yn)=xn+yn:=IntWalk.i64_in _ (by unfold az at hx hy;omega)
 have w2:IntKind.i64.wrap (xn-yn)=xn-yn:=IntWalk.i64_in _ (by unfold az at hx hy;omega)
 have HX:=hide hx
 have HY:=hide hy
 clear hx hy
 go_enter Tryz.func225,Tryz.ntmps225
 go_wp2_with fail
 obtain ⟨w0,hw0,X,Y,Z,hb0⟩:=fE w xk xn yk yn xs ys
 rw[<-hw0]
 clear hw0
 have hzx:w.heap.size<w0.heap.size:=Nat.lt_trans (show w.heap.size<w.heap.size+1+1 by omega) Z.out.lt
 have fe:w.heap.size+1<w0.heap.size:=Nat.lt_trans (show w.heap.size+1<w.heap.size+1+1 by omega) Z.out.lt
 refine (dG ⟨xk,xn,xs⟩ ⟨yk,yn,ys⟩ _).mono ?_
 rintro e w1 ⟨rfl,hb1⟩
 obtain ⟨x0,x1,x2⟩:=X
 obtain ⟨y0,y1,y2⟩:=Y
 simp only[Nat.zero_add]at x1 x2 y1 y2
 have x0:=ah hb1 hzx x0
 have x1:=ah hb1 hzx x1
 have x2:=ah hb1 hzx x2
 have y0:=ah hb1 fe y0
 have y1:=ah hb1 fe y1
 have y2:=ah hb1 fe y2
 have Z:=hide (Z.out.below hb1)
 have hb0:=aa hb0 hb1
 clear hb1 hzx fe
 generalize hcv:bf ⟨xk,xn,xs⟩ ⟨yk,yn,ys⟩=cv
 have yl:=hide hcv
 clear hcv
 have hlx:xs.size+ys.size=(xs++ys).size:=by rw[ByteArray.size_append]
 have ZR:IntKind.i64.wrap ((xs.size:Int)+(ys.size:Int))=(xs.size:Int)+(ys.size:Int):=IntWalk.i64_in _ (by omega)
 have hl2:(64:Int)<(xs.size:Int)+(ys.size:Int):=by omega
 obtain ⟨z0,z1,z2,f0,f1,f2,_⟩:=Z.out
 go_wp2
 refine bodyPost_ret (v:=.agg (Val.cells aW).toArray) (dL (cs:=Val.cells aW) rfl _ _ (w.heap.size+1+1) _ rfl (bC Z.out.c0 Z.out.c1 Z.out.c2) Tryz.underlying74 rfl (by kernel_rfl)) rfl ⟨by rw[HV.out],au hb0 (by omega) _ _ _⟩
theorem Q3 (xk xn yk yn:Int)(xs ys:ByteArray)(hx:az xn)(hy:az yn)(hsx:xs.size<=64)(hsy:ys.size<=64)(hl:¬64<(xs++ys).size)(w:World):
  Calls Tryz.prog 225 #[.int .i64 9,.agg #[.int .i64 xk,.int .i64 xn,.string xs],.agg #[.int .i64 yk,.int .i64 yn,.string ys]] w λe w'=>e=.returned (.agg (dY 9 ⟨xk,xn,xs⟩ ⟨yk,yn,ys⟩).cells.toArray)/\Below w.heap.size w w':=by
 have HV:Hid (dY 9 ⟨xk,xn,xs⟩ ⟨yk,yn,ys⟩=⟨3,0,xs++ys⟩):=hide (by simp only[dY,Int.reduceEq,or_self,or_false,false_or,or_true,true_or,if_false,if_true];rw[if_neg hl])
 have w1:IntKind.i64.wrap (xn+yn)=xn+yn:=IntWalk.i64_in _ (by unfold az at hx hy;omega)
 have w2:IntKind.i64.wrap (xn-yn)=xn-yn:=IntWalk.i64_in _ (by unfold az at hx hy;omega)
 have HX:=hide hx
 have HY:=hide hy
 clear hx hy
 go_enter Tryz.func225,Tryz.ntmps225
 go_wp2_with fail
 obtain ⟨w0,hw0,X,Y,Z,hb0⟩:=fE w xk xn yk yn xs ys
 rw[<-hw0]
 clear hw0
 have hzx:w.heap.size<w0.heap.size:=Nat.lt_trans (show w.heap.size<w.heap.size+1+1 by omega) Z.out.lt
 have fe:w.heap.size+1<w0.heap.size:=Nat.lt_trans (show w.heap.size+1<w.heap.size+1+1 by omega) Z.out.lt
 refine (dG ⟨xk,xn,xs⟩ ⟨yk,yn,ys⟩ _).mono ?_
 rintro e w1 ⟨rfl,hb1⟩
 obtain ⟨x0,x1,x2⟩:=X
 obtain ⟨y0,y1,y2⟩:=Y
 simp only[Nat.zero_add]at x1 x2 y1 y2
 have x0:=ah hb1 hzx x0
 have x1:=ah hb1 hzx x1
 have x2:=ah hb1 hzx x2
 have y0:=ah hb1 fe y0
 have y1:=ah hb1 fe y1
 have y2:=ah hb1 fe y2
 have Z:=hide (Z.out.below hb1)
 have hb0:=aa hb0 hb1
 clear hb1 hzx fe
 generalize hcv:bf ⟨xk,xn,xs⟩ ⟨yk,yn,ys⟩=cv
 have yl:=hide hcv
 clear hcv
 have hlx:xs.size+ys.size=(xs++ys).size:=by rw[ByteArray.size_append]
 have ZR:IntKind.i64.wrap ((xs.size:Int)+(ys.size:Int))=(xs.size:Int)+(ys.size:Int):=IntWalk.i64_in _ (by omega)
 have hl2:¬(64:Int)<(xs.size:Int)+(ys.size:Int):=by omega
 have hl3:xs.size+ys.size<=9223372036854775807:=by omega
 have hl4:=run_string_add_sum (P:=Tryz.prog) (w:=w1) xs ys hl3
 obtain ⟨z0,z1,z2,f0,f1,f2,_⟩:=Z.out
 go_wp2
 refine gH rfl Z.out rfl rfl ⟨by rw[HV.out],au hb0 (by omega) _ _ _⟩
theorem QS (xk xn yk yn:Int)(xs ys:ByteArray)(hx:az xn)(hy:az yn)(w:World):
  Calls Tryz.prog 225 #[.int .i64 10,.agg #[.int .i64 xk,.int .i64 xn,.string xs],.agg #[.int .i64 yk,.int .i64 yn,.string ys]] w λe w'=>e=.returned (.agg (dY 10 ⟨xk,xn,xs⟩ ⟨yk,yn,ys⟩).cells.toArray)/\Below w.heap.size w w':=by
 have HV:Hid (dY 10 ⟨xk,xn,xs⟩ ⟨yk,yn,ys⟩=dM (bf ⟨xk,xn,xs⟩ ⟨yk,yn,ys⟩==0)):=hide (by simp only[dY,Int.reduceEq,or_self,or_false,false_or,or_true,true_or,if_false,if_true])
 have w1:IntKind.i64.wrap (xn+yn)=xn+yn:=IntWalk.i64_in _ (by unfold az at hx hy;omega)
 have w2:IntKind.i64.wrap (xn-yn)=xn-yn:=IntWalk.i64_in _ (by unfold az at hx hy;omega)
 have HX:=hide hx
 have HY:=hide hy
 clear hx hy
 go_enter Tryz.func225,Tryz.ntmps225
 go_wp2_with fail
 obtain ⟨w0,hw0,X,Y,Z,hb0⟩:=fE w xk xn yk yn xs ys
 rw[<-hw0]
 clear hw0
 have hzx:w.heap.size<w0.heap.size:=Nat.lt_trans (show w.heap.size<w.heap.size+1+1 by omega) Z.out.lt
 have fe:w.heap.size+1<w0.heap.size:=Nat.lt_trans (show w.heap.size+1<w.heap.size+1+1 by omega) Z.out.lt
 refine (dG ⟨xk,xn,xs⟩ ⟨yk,yn,ys⟩ _).mono ?_
 rintro e w1 ⟨rfl,hb1⟩
 obtain ⟨x0,x1,x2⟩:=X
 obtain ⟨y0,y1,y2⟩:=Y
 simp only[Nat.zero_add]at x1 x2 y1 y2
 have x0:=ah hb1 hzx x0
 have x1:=ah hb1 hzx x1
 have x2:=ah hb1 hzx x2
 have y0:=ah hb1 fe y0
 have y1:=ah hb1 fe y1
 have y2:=ah hb1 fe y2
 have Z:=hide (Z.out.below hb1)
 have hb0:=aa hb0 hb1
 clear hb1 hzx fe
 generalize hcv:bf ⟨xk,xn,xs⟩ ⟨yk,yn,ys⟩=cv
 have yl:=hide hcv
 clear hcv
 go_wp2_with fail
 refine (j3 (cv==0) _).mono ?_
 rintro e w3 ⟨rfl,hb3⟩
 have Z:=hide (Z.out.below hb3)
 have hb0:=aa hb0 hb3
 clear hb3
 obtain ⟨z0,z1,z2,f0,f1,f2,_⟩:=Z.out
 generalize hbv:dM (cv==0)=bv
 obtain ⟨bk,bn,bs⟩:=bv
 have fo:=hide hbv
 clear hbv
 simp only[Val.cells]
 go_wp2
 refine gH rfl Z.out rfl rfl ⟨by rw[HV.out,yl.out,fo.out],au hb0 (by omega) _ _ _⟩
theorem QT (xk xn yk yn:Int)(xs ys:ByteArray)(hx:az xn)(hy:az yn)(w:World):
  Calls Tryz.prog 225 #[.int .i64 11,.agg #[.int .i64 xk,.int .i64 xn,.string xs],.agg #[.int .i64 yk,.int .i64 yn,.string ys]] w λe w'=>e=.returned (.agg (dY 11 ⟨xk,xn,xs⟩ ⟨yk,yn,ys⟩).cells.toArray)/\Below w.heap.size w w':=by
 have HV:Hid (dY 11 ⟨xk,xn,xs⟩ ⟨yk,yn,ys⟩=dM (bf ⟨xk,xn,xs⟩ ⟨yk,yn,ys⟩ != 0)):=hide (by simp only[dY,Int.reduceEq,or_self,or_false,false_or,or_true,true_or,if_false,if_true])
 have w1:IntKind.i64.wrap (xn+yn)=xn+yn:=IntWalk.i64_in _ (by unfold az at hx hy;omega)
 have w2:IntKind.i64.wrap (xn-yn)=xn-yn:=IntWalk.i64_in _ (by unfold az at hx hy;omega)
 have HX:=hide hx
 have HY:=hide hy
 clear hx hy
 go_enter Tryz.func225,Tryz.ntmps225
 go_wp2_with fail
 obtain ⟨w0,hw0,X,Y,Z,hb0⟩:=fE w xk xn yk yn xs ys
 rw[<-hw0]
 clear hw0
 have hzx:w.heap.size<w0.heap.size:=Nat.lt_trans (show w.heap.size<w.heap.size+1+1 by omega) Z.out.lt
 have fe:w.heap.size+1<w0.heap.size:=Nat.lt_trans (show w.heap.size+1<w.heap.size+1+1 by omega) Z.out.lt
 refine (dG ⟨xk,xn,xs⟩ ⟨yk,yn,ys⟩ _).mono ?_
 rintro e w1 ⟨rfl,hb1⟩
 obtain ⟨x0,x1,x2⟩:=X
 obtain ⟨y0,y1,y2⟩:=Y
 simp only[Nat.zero_add]at x1 x2 y1 y2
 have x0:=ah hb1 hzx x0
 have x1:=ah hb1 hzx x1
 have x2:=ah hb1 hzx x2
 have y0:=ah hb1 fe y0
 have y1:=ah hb1 fe y1
 have y2:=ah hb1 fe y2
 have Z:=hide (Z.out.below hb1)
 have hb0:=aa hb0 hb1
 clear hb1 hzx fe
 generalize hcv:bf ⟨xk,xn,xs⟩ ⟨yk,yn,ys⟩=cv
 have yl:=hide hcv
 clear hcv
 go_wp2_with fail
 refine (j3 (cv != 0) _).mono ?_
 rintro e w3 ⟨rfl,hb3⟩
 have Z:=hide (Z.out.below hb3)
 have hb0:=aa hb0 hb3
 clear hb3
 obtain ⟨z0,z1,z2,f0,f1,f2,_⟩:=Z.out
 generalize hbv:dM (cv != 0)=bv
 obtain ⟨bk,bn,bs⟩:=bv
 have fo:=hide hbv
 clear hbv
 simp only[Val.cells]
 go_wp2
 refine gH rfl Z.out rfl rfl ⟨by rw[HV.out,yl.out,fo.out],au hb0 (by omega) _ _ _⟩
theorem QU (xk xn yk yn:Int)(xs ys:ByteArray)(hx:az xn)(hy:az yn)(w:World):
  Calls Tryz.prog 225 #[.int .i64 12,.agg #[.int .i64 xk,.int .i64 xn,.string xs],.agg #[.int .i64 yk,.int .i64 yn,.string ys]] w λe w'=>e=.returned (.agg (dY 12 ⟨xk,xn,xs⟩ ⟨yk,yn,ys⟩).cells.toArray)/\Below w.heap.size w w':=by
 have HV:Hid (dY 12 ⟨xk,xn,xs⟩ ⟨yk,yn,ys⟩=dM (decide (bf ⟨xk,xn,xs⟩ ⟨yk,yn,ys⟩<0))):=hide (by simp only[dY,Int.reduceEq,or_self,or_false,false_or,or_true,true_or,if_false,if_true])
 have w1:IntKind.i64.wrap (xn+yn)=xn+yn:=IntWalk.i64_in _ (by unfold az at hx hy;omega)
 have w2:IntKind.i64.wrap (xn-yn)=xn-yn:=IntWalk.i64_in _ (by unfold az at hx hy;omega)
 have HX:=hide hx
 have HY:=hide hy
 clear hx hy
 go_enter Tryz.func225,Tryz.ntmps225
 go_wp2_with fail
 obtain ⟨w0,hw0,X,Y,Z,hb0⟩:=fE w xk xn yk yn xs ys
 rw[<-hw0]
 clear hw0
 have hzx:w.heap.size<w0.heap.size:=Nat.lt_trans (show w.heap.size<w.heap.size+1+1 by omega) Z.out.lt
 have fe:w.heap.size+1<w0.heap.size:=Nat.lt_trans (show w.heap.size+1<w.heap.size+1+1 by omega) Z.out.lt
 refine (dG ⟨xk,xn,xs⟩ ⟨yk,yn,ys⟩ _).mono ?_
 rintro e w1 ⟨rfl,hb1⟩
 obtain ⟨x0,x1,x2⟩:=X
 obtain ⟨y0,y1,y2⟩:=Y
 simp only[Nat.zero_add]at x1 x2 y1 y2
 have x0:=ah hb1 hzx x0
 have x1:=ah hb1 hzx x1
 have x2:=ah hb1 hzx x2
 have y0:=ah hb1 fe y0
 have y1:=ah hb1 fe y1
 have y2:=ah hb1 fe y2
 have Z:=hide (Z.out.below hb1)
 have hb0:=aa hb0 hb1
 clear hb1 hzx fe
 generalize hcv:bf ⟨xk,xn,xs⟩ ⟨yk,yn,ys⟩=cv
 have yl:=hide hcv
 clear hcv
 go_wp2_with fail
 refine (j3 (decide (cv<0)) _).mono ?_
 rintro e w3 ⟨rfl,hb3⟩
 have Z:=hide (Z.out.below hb3)
 have hb0:=aa hb0 hb3
 clear hb3
 obtain ⟨z0,z1,z2,f0,f1,f2,_⟩:=Z.out
 generalize hbv:dM (decide (cv<0))=bv
 obtain ⟨bk,bn,bs⟩:=bv
 have fo:=hide hbv
 clear hbv
 simp only[Val.cells]
 go_wp2
 refine gH rfl Z.out rfl rfl ⟨by rw[HV.out,yl.out,fo.out],au hb0 (by omega) _ _ _⟩
theorem QV (xk xn yk yn:Int)(xs ys:ByteArray)(hx:az xn)(hy:az yn)(w:World):
  Calls Tryz.prog 225 #[.int .i64 13,.agg #[.int .i64 xk,.int .i64 xn,.string xs],.agg #[.int .i64 yk,.int .i64 yn,.string ys]] w λe w'=>e=.returned (.agg (dY 13 ⟨xk,xn,xs⟩ ⟨yk,yn,ys⟩).cells.toArray)/\Below w.heap.size w w':=by
 have HV:Hid (dY 13 ⟨xk,xn,xs⟩ ⟨yk,yn,ys⟩=dM (decide (bf ⟨xk,xn,xs⟩ ⟨yk,yn,ys⟩<=0))):=hide (by simp only[dY,Int.reduceEq,or_self,or_false,false_or,or_true,true_or,if_false,if_true])
 have w1:IntKind.i64.wrap (xn+yn)=xn+yn:=IntWalk.i64_in _ (by unfold az at hx hy;omega)
 have w2:IntKind.i64.wrap (xn-yn)=xn-yn:=IntWalk.i64_in _ (by unfold az at hx hy;omega)
 have HX:=hide hx
 have HY:=hide hy
 clear hx hy
 go_enter Tryz.func225,Tryz.ntmps225
 go_wp2_with fail
 obtain ⟨w0,hw0,X,Y,Z,hb0⟩:=fE w xk xn yk yn xs ys
 rw[<-hw0]
 clear hw0
 have hzx:w.heap.size<w0.heap.size:=Nat.lt_trans (show w.heap.size<w.heap.size+1+1 by omega) Z.out.lt
 have fe:w.heap.size+1<w0.heap.size:=Nat.lt_trans (show w.heap.size+1<w.heap.size+1+1 by omega) Z.out.lt
 refine (dG ⟨xk,xn,xs⟩ ⟨yk,yn,ys⟩ _).mono ?_
 rintro e w1 ⟨rfl,hb1⟩
 obtain ⟨x0,x1,x2⟩:=X
 obtain ⟨y0,y1,y2⟩:=Y
 simp only[Nat.zero_add]at x1 x2 y1 y2
 have x0:=ah hb1 hzx x0
 have x1:=ah hb1 hzx x1
 have x2:=ah hb1 hzx x2
 have y0:=ah hb1 fe y0
 have y1:=ah hb1 fe y1
 have y2:=ah hb1 fe y2
 have Z:=hide (Z.out.below hb1)
 have hb0:=aa hb0 hb1
 clear hb1 hzx fe
 generalize hcv:bf ⟨xk,xn,xs⟩ ⟨yk,yn,ys⟩=cv
 have yl:=hide hcv
 clear hcv
 go_wp2_with fail
 refine (j3 (decide (cv<=0)) _).mono ?_
 rintro e w3 ⟨rfl,hb3⟩
 have Z:=hide (Z.out.below hb3)
 have hb0:=aa hb0 hb3
 clear hb3
 obtain ⟨z0,z1,z2,f0,f1,f2,_⟩:=Z.out
 generalize hbv:dM (decide (cv<=0))=bv
 obtain ⟨bk,bn,bs⟩:=bv
 have fo:=hide hbv
 clear hbv
 simp only[Val.cells]
 go_wp2
 refine gH rfl Z.out rfl rfl ⟨by rw[HV.out,yl.out,fo.out],au hb0 (by omega) _ _ _⟩
theorem Lf (op:Int)(hop:4<=op/\op<=13)(x y:Val)(hx:az x.num)(hy:az y.num)(hsx:x.str.size<=64)(hsy:y.str.size<=64)(w:World):
  Calls Tryz.prog 225 #[.int .i64 op,.agg x.cells.toArray,.agg y.cells.toArray] w λe w'=>e=.returned (.agg (dY op x y).cells.toArray)/\Below w.heap.size w w':=by
 obtain ⟨xk,xn,xs⟩:=x
 obtain ⟨yk,yn,ys⟩:=y
 obtain rfl|rfl|rfl|rfl|rfl|rfl|rfl|rfl|rfl|rfl:op=4\/op=5\/op=6\/op=7\/op=8\/op=9\/op=10\/op=11\/op=12\/op=13:=by omega
 ·by_cases h:xk=4
  ·exact QX xk xn yk yn xs ys hx hy (by simpa using h) w
  ·exact QW xk xn yk yn xs ys hx hy (by simpa using h) w
 ·by_cases h:xk=4
  ·by_cases h2:yk=2
   ·exact Q0 xk xn yk yn xs ys hx hy (by simpa using h) (by simpa using h2) w
   ·exact QY xk xn yk yn xs ys hx hy (by simpa using h) (by simpa using h2) w
  ·exact QZ xk xn yk yn xs ys hx hy (by simpa using h) w
 ·exact TU xk xn yk yn xs ys hx hy w
 ·exact TV xk xn yk yn xs ys hx hy w
 ·exact TW xk xn yk yn xs ys hx hy w
 ·by_cases h:64<(xs++ys).size
  ·exact Q4 xk xn yk yn xs ys hx hy hsx hsy h w
  ·exact Q3 xk xn yk yn xs ys hx hy hsx hsy h w
 ·exact QS xk xn yk yn xs ys hx hy w
 ·exact QT xk xn yk yn xs ys hx hy w
 ·exact QU xk xn yk yn xs ys hx hy w
 ·exact QV xk xn yk yn xs ys hx hy w
end Go.Proofs.YtggejcekmehocaaGreatDoor
