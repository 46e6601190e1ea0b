/-
  scalar.apply: with its operands it returns opV. (Printed by gen_app.py.) scalar.special and apply at any node; slices.Contains over values: is there a null? Plain law: what a map from the columns' names to a row's values holds; nodes of which an operand is null. No program is in sight.
-/
import Derived.Test.YtopjjlmfilgngaaGreatDoorGat
import Derived.Test.YtopjjlmfilgngaaGreatDoorGak
import Derived.Test.YtopjjlmfilgngaaGreatDoorMap
namespace Go.Proofs.YtopjjlmfilgngaaGreatDoor
set_option maxHeartbeats 2000000
set_option maxRecDepth 100000
open Go.RowKit
set_option linter.unusedSimpArgs false
set_option linter.unusedVariables false
theorem VI (zz:List Zone)(kd nu ar:Int)(st nm:ByteArray)(w:World)(b off:Nat)(c:Nat)(xk xn yk yn:Int)(xs ys:ByteArray)(hx:In w (some ⟨b,off,none⟩) 2 c ([⟨xk,xn,xs⟩,⟨yk,yn,ys⟩]:List Val))(hkx:¬xk=0)(hky:¬yk=0)(A2:Option Addr)(n2 c2:Nat)(hz:In w A2 n2 c2 zz):
  Calls Tryz.prog 191 #[.agg #[.int .i64 12,.int .i64 kd,.int .i64 nu,.string st,.string nm,.int .i64 ar],.slice (some ⟨b,off,none⟩) 2 c,.slice A2 n2 c2] w λe w'=>e=.returned (.agg (uk zz ⟨12,⟨kd,nu,st⟩,nm,ar⟩ ([⟨xk,xn,xs⟩,⟨yk,yn,ys⟩]:List Val)).cells.toArray)/\Below w.heap.size w w':=by
 have HV:Hid (uk zz ⟨12,⟨kd,nu,st⟩,nm,ar⟩ ([⟨xk,xn,xs⟩,⟨yk,yn,ys⟩]:List Val)=fw (decide (bA ⟨xk,xn,xs⟩ ⟨yk,yn,ys⟩<0))):=hide (by simp only[uk,Int.reduceEq,if_false];rw[if_neg (by rintro (h|h);exact hkx h;exact hky h)];simp only[dX,jy,Int.reduceEq,or_self,or_false,false_or,or_true,true_or,if_false,if_true]);obtain ⟨hB,xV,xok⟩:=mi hx (show 0<2 by omega) (x:=⟨xk,xn,xs⟩) rfl;obtain ⟨hB,yV,Uc⟩:=mi hx (show 1<2 by omega) (x:=⟨yk,yn,ys⟩) rfl;have Xc:=hide hkx;clear hkx;have HKY:=hide hky;clear hky;go_enter Tryz.func191,Tryz.ntmps191;go_wp2;obtain ⟨w0,hw0,Z,N0,N1,N2,N3,N4, -,hb0⟩:=Ef w 12 kd nu ar st nm;rw[<-hw0];clear hw0;have hn0:w.heap.size<w0.heap.size:=Nat.lt_trans (show w.heap.size<w.heap.size+1 by omega) Z.out.lt;have hB0:b<w0.heap.size:=by have:=hb0.size;omega
 have hne:¬b=w.heap.size+1:=by omega
 obtain ⟨x0,x1,x2⟩:=V3.below xV hb0 hB;obtain ⟨y0,y1,y2⟩:=V3.below yV hb0 hB;simp only[Nat.zero_mul,Nat.one_mul,Nat.add_zero,Nat.reduceMul]at x0 x1 x2 y0 y1 y2;go_region_held3 (λV=>V.cell? ⟨b,off,none⟩=some (.int .i64 xk)/\V.cell? ⟨b,off+1,none⟩=some (.int .i64 xn)/\V.cell? ⟨b,off+2,none⟩=some (.string xs)/\V.cell? ⟨b,off+3,none⟩=some (.int .i64 yk)/\V.cell? ⟨b,off+3+1,none⟩=some (.int .i64 yn)/\V.cell? ⟨b,off+3+2,none⟩=some (.string ys)) (first|exact ⟨x0,x1,x2,y0,y1,y2⟩|exact ⟨x0',x1',x2',y0',y1',y2'⟩|exact ⟨ag (ag (ag x0' (.inl hne)) (.inl hne)) (.inl hne),ag (ag (ag x1' (.inl hne)) (.inl hne)) (.inl hne),ag (ag (ag x2' (.inl hne)) (.inl hne)) (.inl hne),ag (ag (ag y0' (.inl hne)) (.inl hne)) (.inl hne),ag (ag (ag y1' (.inl hne)) (.inl hne)) (.inl hne),ag (ag (ag y2' (.inl hne)) (.inl hne)) (.inl hne)⟩) (first|(go_at_call 58;refine (Dm ⟨xk,xn,xs⟩ ⟨yk,yn,ys⟩ _).mono ?_;rintro e w1 ⟨rfl,hb1⟩;have hq:=aj hb1;have x0':=ah hq hB0 x0;have x1':=ah hq hB0 x1;have x2':=ah hq hB0 x2;have y0':=ah hq hB0 y0;have y1':=ah hq hB0 y1;have y2':=ah hq hB0 y2;have Z:=hide (Z.out.below hq);have hb0:=aa hb0 hq;clear hb1;have hB1:b<w1.heap.size:=Nat.lt_of_lt_of_le hB0 hq.size;generalize hcv:bA ⟨xk,xn,xs⟩ ⟨yk,yn,ys⟩=cv;have xC:=hide hcv;clear hcv)|(go_at_call 215;refine (BZ (decide (cv<0)) _).mono ?_;rintro e w2 ⟨rfl,hb2⟩;have x0':=ah hb2 hB1 x0';have x1':=ah hb2 hB1 x1';have x2':=ah hb2 hB1 x2';have y0':=ah hb2 hB1 y0';have y1':=ah hb2 hB1 y1';have y2':=ah hb2 hB1 y2';have Z:=hide (Z.out.below hb2);have hb0:=aa hb0 hb2;clear hb2;obtain ⟨z0,z1,z2,f0,f1,f2,_⟩:=Z.out;generalize hbv:fw (decide (cv<0))=bv;obtain ⟨bk,bn,bs⟩:=bv;have kH:=hide hbv;clear hbv;simp only[Val.cells]));go_wp2;refine qQ rfl Z.out rfl rfl ⟨by rw[HV.out,xC.out,kH.out],aJ hb0 (by omega) _ _ _⟩
theorem VJ (zz:List Zone)(kd nu ar:Int)(st nm:ByteArray)(w:World)(b off:Nat)(c:Nat)(xk xn yk yn:Int)(xs ys:ByteArray)(hx:In w (some ⟨b,off,none⟩) 2 c ([⟨xk,xn,xs⟩,⟨yk,yn,ys⟩]:List Val))(hkx:¬xk=0)(hky:¬yk=0)(A2:Option Addr)(n2 c2:Nat)(hz:In w A2 n2 c2 zz):
  Calls Tryz.prog 191 #[.agg #[.int .i64 13,.int .i64 kd,.int .i64 nu,.string st,.string nm,.int .i64 ar],.slice (some ⟨b,off,none⟩) 2 c,.slice A2 n2 c2] w λe w'=>e=.returned (.agg (uk zz ⟨13,⟨kd,nu,st⟩,nm,ar⟩ ([⟨xk,xn,xs⟩,⟨yk,yn,ys⟩]:List Val)).cells.toArray)/\Below w.heap.size w w':=by
 have HV:Hid (uk zz ⟨13,⟨kd,nu,st⟩,nm,ar⟩ ([⟨xk,xn,xs⟩,⟨yk,yn,ys⟩]:List Val)=fw (decide (bA ⟨xk,xn,xs⟩ ⟨yk,yn,ys⟩<=0))):=hide (by simp only[uk,Int.reduceEq,if_false];rw[if_neg (by rintro (h|h);exact hkx h;exact hky h)];simp only[dX,jy,Int.reduceEq,or_self,or_false,false_or,or_true,true_or,if_false,if_true]);obtain ⟨hB,xV,xok⟩:=mi hx (show 0<2 by omega) (x:=⟨xk,xn,xs⟩) rfl;obtain ⟨hB,yV,Uc⟩:=mi hx (show 1<2 by omega) (x:=⟨yk,yn,ys⟩) rfl;have Xc:=hide hkx;clear hkx;have HKY:=hide hky;clear hky;go_enter Tryz.func191,Tryz.ntmps191;go_wp2;obtain ⟨w0,hw0,Z,N0,N1,N2,N3,N4, -,hb0⟩:=Ef w 13 kd nu ar st nm;rw[<-hw0];clear hw0;have hn0:w.heap.size<w0.heap.size:=Nat.lt_trans (show w.heap.size<w.heap.size+1 by omega) Z.out.lt;have hB0:b<w0.heap.size:=by have:=hb0.size;omega
 have hne:¬b=w.heap.size+1:=by omega
 obtain ⟨x0,x1,x2⟩:=V3.below xV hb0 hB;obtain ⟨y0,y1,y2⟩:=V3.below yV hb0 hB;simp only[Nat.zero_mul,Nat.one_mul,Nat.add_zero,Nat.reduceMul]at x0 x1 x2 y0 y1 y2;go_region_held3 (λV=>V.cell? ⟨b,off,none⟩=some (.int .i64 xk)/\V.cell? ⟨b,off+1,none⟩=some (.int .i64 xn)/\V.cell? ⟨b,off+2,none⟩=some (.string xs)/\V.cell? ⟨b,off+3,none⟩=some (.int .i64 yk)/\V.cell? ⟨b,off+3+1,none⟩=some (.int .i64 yn)/\V.cell? ⟨b,off+3+2,none⟩=some (.string ys)) (first|exact ⟨x0,x1,x2,y0,y1,y2⟩|exact ⟨x0',x1',x2',y0',y1',y2'⟩|exact ⟨ag (ag (ag x0' (.inl hne)) (.inl hne)) (.inl hne),ag (ag (ag x1' (.inl hne)) (.inl hne)) (.inl hne),ag (ag (ag x2' (.inl hne)) (.inl hne)) (.inl hne),ag (ag (ag y0' (.inl hne)) (.inl hne)) (.inl hne),ag (ag (ag y1' (.inl hne)) (.inl hne)) (.inl hne),ag (ag (ag y2' (.inl hne)) (.inl hne)) (.inl hne)⟩) (first|(go_at_call 58;refine (Dm ⟨xk,xn,xs⟩ ⟨yk,yn,ys⟩ _).mono ?_;rintro e w1 ⟨rfl,hb1⟩;have hq:=aj hb1;have x0':=ah hq hB0 x0;have x1':=ah hq hB0 x1;have x2':=ah hq hB0 x2;have y0':=ah hq hB0 y0;have y1':=ah hq hB0 y1;have y2':=ah hq hB0 y2;have Z:=hide (Z.out.below hq);have hb0:=aa hb0 hq;clear hb1;have hB1:b<w1.heap.size:=Nat.lt_of_lt_of_le hB0 hq.size;generalize hcv:bA ⟨xk,xn,xs⟩ ⟨yk,yn,ys⟩=cv;have xC:=hide hcv;clear hcv)|(go_at_call 215;refine (BZ (decide (cv<=0)) _).mono ?_;rintro e w2 ⟨rfl,hb2⟩;have x0':=ah hb2 hB1 x0';have x1':=ah hb2 hB1 x1';have x2':=ah hb2 hB1 x2';have y0':=ah hb2 hB1 y0';have y1':=ah hb2 hB1 y1';have y2':=ah hb2 hB1 y2';have Z:=hide (Z.out.below hb2);have hb0:=aa hb0 hb2;clear hb2;obtain ⟨z0,z1,z2,f0,f1,f2,_⟩:=Z.out;generalize hbv:fw (decide (cv<=0))=bv;obtain ⟨bk,bn,bs⟩:=bv;have kH:=hide hbv;clear hbv;simp only[Val.cells]));go_wp2;refine qQ rfl Z.out rfl rfl ⟨by rw[HV.out,xC.out,kH.out],aJ hb0 (by omega) _ _ _⟩
theorem CQ {v:Val}(h:valid v=true):aF v.num:=by
 unfold aF;rw[valid]at h
 (repeat' split at h) <;> simp at h <;> omega
theorem zH {s:ByteArray}(h:ek s=true):s.size=0:=by
 rw[ek,List.isEmpty_iff]at h;have:s.size=s.toList.length:=by rw[ByteArray.toList_eq];rfl
 rw[this,h];rfl
theorem CR {v:Val}(h:valid v=true):v.str.size<=64:=by
 rw[valid]at h
 (repeat' split at h) <;> simp at h
 all_goals first|(have:=zH h.2;omega)|(have:=zH h.1;omega)|omega
def og (op:Int):Bool:=op==0 || (op==14 || (op==15 || (op==16 || (op==17 || op==18))))
def Pj (zz:List Zone)(n:Node)(l:List Val):Val:=if og n.op then uk zz n l else bG
theorem gY (zz:List Zone)(x:Node)(hsh:shaped x=true)(hko:x.ok)(m:Nat)(hm:arity x.op x.arity=(m:Int))(w:World)(A:Option Addr)(c:Nat)(xs:List Val)(hx:In w A m c xs):
  Calls Tryz.prog 189 #[.agg x.cells.toArray,.slice A m c] w λe w'=>e=.returned (.tuple #[.agg (Pj zz x xs).cells.toArray,.bool (og x.op)])/\Below w.heap.size w w':=by
 have hop:=hko.2.2.2.2;obtain ⟨op,⟨kd,nu,st⟩,nm,ar⟩:=x;simp only[GG]at hm hop;clear hsh hko;have e1:og op=false:=by rcases hop with rfl|rfl|rfl <;> rfl
 simp only[Pj,e1];exact WW op kd nu ar st nm (by simp;omega) (by simp;omega) (by simp;omega) (by simp;omega) (by simp;omega) (by simp;omega) w _
theorem BV (zz:List Zone)(x:Node)(hsh:shaped x=true)(hko:x.ok)(h1:x.op≠1)(h21:x.op≠21)(hsp:og x.op=false)(m:Nat)(hm:arity x.op x.arity=(m:Int))(w:World)(A:Option Addr)(c:Nat)(xs:List Val)(hx:In w A m c xs)(hv: ∀v∈xs,valid v=true)(hnn: ∀v∈xs,v.kind≠0)(hb:x.op=2-> ∀v∈xs,v.kind=1)(A2:Option Addr)(n2 c2:Nat)(hz:In w A2 n2 c2 zz):
  Calls Tryz.prog 191 #[.agg x.cells.toArray,.slice A m c,.slice A2 n2 c2] w λe w'=>e=.returned (.agg (uk zz x xs).cells.toArray)/\Below w.heap.size w w':=by
 have hop:=hko.2.2.2.2;obtain ⟨op,⟨kd,nu,st⟩,nm,ar⟩:=x;simp only[GG]at hm hop h1;clear hsh hko hb;obtain rfl|rfl|rfl:=hop
 ·exact absurd rfl h1
 ·have e:m=2:=by simp[arity]at hm;omega
  subst e;obtain ⟨⟨xk,xn,xs⟩,⟨yk,yn,ys⟩,b,off,rfl,rfl⟩:=hx.len2;exact VI zz kd nu ar st nm w b off c xk xn yk yn xs ys hx (hnn ⟨xk,xn,xs⟩ (by simp)) (hnn ⟨yk,yn,ys⟩ (by simp)) A2 n2 c2 hz
 ·have e:m=2:=by simp[arity]at hm;omega
  subst e;obtain ⟨⟨xk,xn,xs⟩,⟨yk,yn,ys⟩,b,off,rfl,rfl⟩:=hx.len2;exact VJ zz kd nu ar st nm w b off c xk xn yk yn xs ys hx (hnn ⟨xk,xn,xs⟩ (by simp)) (hnn ⟨yk,yn,ys⟩ (by simp)) A2 n2 c2 hz
def kE:Nat->List Val->Int
 | _,[]=> -1
 |k,v :: l=>if v.kind=0 then k else kE (k+1) l
theorem Cy: ∀(l:List Val) (k:Nat),(decide (0<=kE k l))=l.any λv=>v.kind==0
 | [],k=>by simp[kE]
 |v :: l,k=>by
  rw[kE,List.any_cons];by_cases h:v.kind=0
  ·rw[if_pos h];simp[h]
  ·rw[if_neg h,Cy l (k+1)];simp[h]
theorem Bu (w:World)(A:Option Addr)(n c:Nat)(xs:List Val)(hx:In w A n c xs)(hv: ∀v∈xs,valid v=true):
  Calls Tryz.prog 216 #[.slice A n c,.agg #[.int .i64 0,.int .i64 0,.string ⟨#[]⟩]] w λe w'=>e=.returned (.int .i64 (kE 0 xs))/\Below w.heap.size w w':=by
 have h63:=hx.le;have HV:=hide hv;clear hv;go_enter Tryz.func216,Tryz.ntmps216;go_wp2;obtain ⟨w1,hw1⟩: ∃w1,w1=w.alloc (.cells #[.int .i64 0,.int .i64 0,.string ⟨#[]⟩] 36):=⟨_,rfl⟩;have g0:w1.cell? ⟨w.heap.size,0,none⟩=some (.int .i64 0):=by rw[hw1];simp[go_sem]
 have g1:w1.cell? ⟨w.heap.size,1,none⟩=some (.int .i64 0):=by rw[hw1];simp[go_sem]
 have g2:w1.cell? ⟨w.heap.size,2,none⟩=some (.string ⟨#[]⟩):=by rw[hw1];simp[go_sem]
 have hb1:Below w.heap.size w w1:=by rw[hw1];exact ae
 rw[<-hw1];clear hw1;go_loopw [8] (λi wr=> ∃(k q:Nat),k<=n/\i=.int .i64 k/\kE 0 xs=kE k (xs.drop k)/\wr=w1.drewN q) (λi _=>n-(intOf i).toNat)
 case atStart=>exact ⟨0,0,Nat.zero_le _,rfl,rfl,rfl⟩
 case round=>
  obtain ⟨k,q,hk,rfl,heq,rfl⟩:=hrel;have HE:=hide heq;clear heq;by_cases hlt:k<n
  ·obtain ⟨b,off,x,rfl,hB,HX,f0,f1,f2,hok⟩:=(hx.below hb1).val hlt;have hvx:=HV.out x (List.mem_of_mem_drop (i:=k) (by rw[HX.out];simp));have g0':w1.cell? ⟨w.heap.size,0,none⟩=some (.int .i64 0):=g0;have g1':w1.cell? ⟨w.heap.size,1,none⟩=some (.int .i64 0):=g1;have g2':w1.cell? ⟨w.heap.size,2,none⟩=some (.string ⟨#[]⟩):=g2;have k0:(0:Int)<=(k:Int):=by omega
   have k1:(k:Int)<(n:Int):=by omega
   by_cases h0:x.kind=0
   ·obtain rfl:=BB hvx h0;have HN:Hid (kE 0 xs=(k:Int)):=hide (by rw[HE.out,HX.out,kE,if_pos h0]);clear h0 hvx;have f0':w1.cell? ⟨b,off+k*3,none⟩=some (.int .i64 0):=f0;have f1':w1.cell? ⟨b,off+k*3+1,none⟩=some (.int .i64 0):=f1;have f2':w1.cell? ⟨b,off+k*3+2,none⟩=some (.string ⟨#[]⟩):=f2;clear f0 f1 f2;go_wp2;go_quiet (fail);go_wp2;go_ret;exact ⟨ax HN.out.symm,below_drewN (below_drewN hb1 _) _⟩
   ·have HN:Hid (kE 0 xs=kE (k+1) (xs.drop (k+1))):=hide (by rw[HE.out,HX.out,kE,if_neg h0]);have f0':w1.cell? ⟨b,off+k*3,none⟩=some (.int .i64 x.kind):=f0;have f1':w1.cell? ⟨b,off+k*3+1,none⟩=some (.int .i64 x.num):=f1;have f2':w1.cell? ⟨b,off+k*3+2,none⟩=some (.string x.str):=f2;clear f0 f1 f2;have q0:((0:Int)==x.kind)=false:=by simp;omega
    have q1:(x.kind==0)=false:=by simpa using h0
    go_wp2;go_quiet (fail);go_wp2;go_roundw
    case rel=>exact ⟨k+1,_,by omega,by go_num,HN.out,rfl⟩
    case measure=>simp[intOf];omega
  ·have HN:Hid (kE 0 xs= -1):=hide (by rw[HE.out,aI hx.len (by omega),kE]);go_wp2;go_ret;exact ⟨ax HN.out.symm,below_drewN hb1 _⟩
theorem jl (w:World)(A:Option Addr)(n c:Nat)(xs:List Val)(hx:In w A n c xs)(hv: ∀v∈xs,valid v=true):
  Calls Tryz.prog 190 #[.slice A n c,.agg #[.int .i64 0,.int .i64 0,.string ⟨#[]⟩]] w λe w'=>e=.returned (.bool (xs.any λv=>v.kind==0))/\Below w.heap.size w w':=by
 have HN:=hide (Cy xs 0);go_enter Tryz.func190,Tryz.ntmps190;go_wp2_with fail;refine (Bu _ _ _ _ xs (hx.below ae) hv).mono ?_;rintro e w1 ⟨rfl,hb1⟩;go_wp2;go_ret;exact ⟨ay HN.out,aa ae hb1⟩
def pairs:List Col->List Val->List (ByteArray×Value)
 |c :: cs,v :: vs=>(c.name,.agg v.cells.toArray) :: pairs cs vs
 | _,_=>[]
theorem zP {c:Col}{v:Val}: ∀{cs:List Col} {vs:List Val},cs.length=vs.length->pairs (cs++[c]) (vs++[v])=pairs cs vs++[(c.name,.agg v.cells.toArray)]
 | [],[],_=>rfl
 |a :: cs,b :: vs,h=>by
  have:=zP (c:=c) (v:=v) (cs:=cs) (vs:=vs) (by simpa using h);rw[List.cons_append,List.cons_append,pairs,this,pairs];rfl
 | [],_ :: _,h=>by simp at h
 | _ :: _,[],h=>by simp at h
theorem rG {name:ByteArray}: ∀{cols:List Col} {row:List Val} {k:Nat},cols.length=row.length->
  (aR name k cols= -1->jV name (pairs cols row)=none)/\(∀j:Nat,aR name k cols=((k+j:Nat):Int)->jV name (pairs cols row)=some (.agg (row.getD j bG).cells.toArray))
 | [],[],k,_=>⟨λ_=>rfl,λj h=>by rw[aR]at h;omega⟩
 |c :: cols,v :: row,k,h=>by
  have ih:=rG (name:=name) (cols:=cols) (row:=row) (k:=k+1) (by simpa using h);have hr:=iB name cols (k+1);rw[pairs,aR];by_cases hn:(c.name.toList==name.toList)=true
  ·rw[if_pos hn];refine ⟨λq=>by omega,λj q=>?_⟩;obtain rfl:j=0:=by omega
   have hn':(name.toList==c.name.toList)=true:=by rw[BEq.comm];exact hn
   simp[jV,hn']
  ·rw[if_neg hn];have hn':(name.toList==c.name.toList)=false:=by
    rw[BEq.comm];simpa using hn
   refine ⟨λq=>?_,λj q=>?_⟩
   ·have:=ih.1 q;simpa[jV,hn'] using this
   ·have hj:0<j:=by
     rcases hr with hr|hr
     ·omega
     ·omega
    obtain ⟨j,rfl⟩: ∃i,j=i+1:=⟨j-1,by omega⟩;have:=ih.2 j (by rw[q];congr 1;omega);simpa[jV,hn'] using this
 | [],_ :: _,_,h=>by simp at h
 | _ :: _,[],_,h=>by simp at h
theorem rC (name:ByteArray): ∀(l:List Col) (i k:Nat),aR name i (l.take k)= -1\/(aR name i l<i+k)
 | [],i,k=>by simp[aR]
 |c :: l,i,0=>by simp[aR]
 |c :: l,i,k+1=>by
  rw[List.take_succ_cons,aR,aR]
  split
  ·right;omega
  ·rcases rC name l (i+1) k with h|h
   ·exact .inl h
   ·right;omega
theorem N9 {cols:List Col}{row:List Val}{k:Nat}{c:Col}(hc:aC cols=0)(hl:cols.length=row.length)(hk:cols[k]?=some c):jV c.name (pairs (cols.take k) (row.take k))=none:=by
 refine (rG (k:=0) (by rw[List.length_take,List.length_take,hl])).1 ?_;rcases rC c.name cols 0 k with h|h
 ·exact h
 ·exfalso;rw[aC]at hc
  split at hc
  ·omega
  ·have:=dU hc k c hk;rw[gK]at this
   (repeat' split at this) <;> first|omega|(rename_i q;exact q (by rw[index];omega))
theorem Ii {cols:List Col}{row:List Val}{k:Nat}{c:Col}{v:Val}(hl:cols.length=row.length)(hk:cols[k]?=some c)(hv:row[k]?=some v):pairs (cols.take (k+1)) (row.take (k+1))=pairs (cols.take k) (row.take k)++[(c.name,.agg v.cells.toArray)]:=by
 rw[List.take_add_one,List.take_add_one,hk,hv];exact zP (by rw[List.length_take,List.length_take,hl])
theorem N8 {cols:List Col}{row:List Val}{name:ByteArray}(hl:cols.length=row.length)(hi:0<=index cols name):jV name (pairs cols row)=some (.agg (row.getD (index cols name).toNat bG).cells.toArray):=by
 refine (rG (k:=0) hl).2 _ ?_;rw[index]at*;omega
theorem FX {zz:List Zone}{x:Node}{m:Nat}{xs:List Val}(hsh:shaped x=true)(h1:x.op≠1)(h21:x.op≠21)(hsp:og x.op=false)(hm:arity x.op x.arity=(m:Int))(hl:xs.length=m)(hn:(xs.any λv=>v.kind==0)=true):uk zz x xs=bG:=by
 have hop:=CG hsh h1 h21;obtain ⟨op,v,nm,ar⟩:=x;simp only at hm hop hsp h1 h21;simp[og]at hsp;by_cases hu:op=2\/op=3\/op=19\/op=20
 ·have e:m=1:=by rw[arity,if_neg (by omega),if_pos (by omega)]at hm;omega
  subst e;obtain ⟨a,rfl⟩:=xm hl;have h0:a.kind=0:=by simpa using hn
  simp only[uk];rw[Li,if_neg (by omega),if_pos h0]
 ·have e:m=2:=by rw[arity,if_neg (by omega),if_neg (by omega),if_neg (by omega),if_neg h21,if_pos (by omega)]at hm;omega
  subst e;obtain ⟨a,b,rfl⟩:=NW hl;have h0:a.kind=0\/b.kind=0:=by simpa using hn
  simp only[uk];rw[if_neg (by omega),if_neg (by omega),if_neg (by omega),if_pos h0]
theorem jo {cols:List Col}{row:List Val}{zz:List Zone}{x:Node}{xs:List Val}(h1:x.op≠1):iI cols row zz x xs=uk zz x xs:=by rw[iI,if_neg h1]
theorem xB {zz:List Zone}{x:Node}{xs:List Val}(h:og x.op=true):Pj zz x xs=uk zz x xs:=by rw[Pj,if_pos h]
theorem ym {zz:List Zone}{x:Node}{xs:List Val}(h:og x.op=false):Pj zz x xs=bG:=by rw[Pj,h];rfl
end Go.Proofs.YtopjjlmfilgngaaGreatDoor
