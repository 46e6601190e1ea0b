/-
  scalar.special and apply at any node; slices.Contains over values: is there a null? Plain law: what a map from the columns' names to a row's values holds; nodes of which an operand is null. No program is in sight.
-/
import Derived.Test.YtggejcekmehocaaGreatDoorAppB
import Derived.Test.YtggejcekmehocaaGreatDoorGas
import Derived.Test.YtggejcekmehocaaGreatDoorGaj
namespace Go.Proofs.YtggejcekmehocaaGreatDoor
set_option maxHeartbeats 1000000
set_option maxRecDepth 100000
open Go.RowKit
set_option linter.unusedSimpArgs false
set_option linter.unusedVariables false
theorem mD {v:Val}(h:valid v=true):az v.num:=by
 unfold az
 rw[valid]at h
 (repeat' split at h) <;> simp at h <;> omega
theorem zy {s:ByteArray}(h:fJ s=true):s.size=0:=by
 rw[fJ,List.isEmpty_iff]at h
 have:s.size=s.toList.length:=by rw[ByteArray.toList_eq];rfl
 rw[this,h];rfl
theorem mE {v:Val}(h:valid v=true):v.str.size<=64:=by
 rw[valid]at h
 (repeat' split at h) <;> simp at h
 all_goals first|(have:=zy h.2;omega)|(have:=zy h.1;omega)|omega
def lW (op:Int):Bool:=op==0 || (op==14 || (op==15 || (op==16 || (op==17 || op==18))))
def Nr (zz:List Zone)(n:Node)(l:List Val):Val:=if lW n.op then eO zz n l else aW
theorem iK (zz:List Zone)(x:Node)(hsh:shaped x=true)(m:Nat)(hm:arity x.op x.arity=(m:Int))(w:World)(A:Option Addr)(c:Nat)(xs:List Val)(hx:In w A m c xs):
  Calls Tryz.prog 143 #[.agg x.cells.toArray,.slice A m c] w λe w'=>e=.returned (.tuple #[.agg (Nr zz x xs).cells.toArray,.bool (lW x.op)])/\Below w.heap.size w w':=by
 obtain ⟨op,⟨kd,nu,st⟩,nm,ar⟩:=x
 simp only at hm
 clear hsh
 by_cases h0:op=0
 ·subst h0
  have e:m=0:=by simp[arity]at hm;omega
  subst e
  obtain rfl:=hx.len0
  exact XZ zz kd nu ar st nm w A c
 by_cases Nk:op=14
 ·subst Nk
  have e:m=2:=by simp[arity]at hm;omega
  subst e
  obtain ⟨⟨xk,xn,xs⟩,⟨yk,yn,ys⟩,b,off,rfl,rfl⟩:=hx.len2
  exact UU zz kd nu ar st nm w b off c xk xn yk yn xs ys hx
 by_cases Nl:op=15
 ·subst Nl
  have e:m=2:=by simp[arity]at hm;omega
  subst e
  obtain ⟨⟨xk,xn,xs⟩,⟨yk,yn,ys⟩,b,off,rfl,rfl⟩:=hx.len2
  exact UV zz kd nu ar st nm w b off c xk xn yk yn xs ys hx
 by_cases h16:op=16
 ·subst h16
  have e:m=1:=by simp[arity]at hm;omega
  subst e
  obtain ⟨⟨xk,xn,xs⟩,b,off,rfl,rfl⟩:=hx.len1
  exact UW zz kd nu ar st nm w b off c xk xn xs hx
 by_cases Ig:op=17
 ·subst Ig
  have e:m=3:=by simp[arity]at hm;omega
  subst e
  obtain ⟨⟨xk,xn,xs⟩,⟨yk,yn,ys⟩,⟨zk,zn,zs⟩,b,off,rfl,rfl⟩:=hx.len3
  cases q:(truth ⟨xk,xn,xs⟩==1)
  ·exact Rz zz kd nu ar st nm w b off c xk xn yk yn zk zn xs ys zs hx q
  ·exact RA zz kd nu ar st nm w b off c xk xn yk yn zk zn xs ys zs hx q
 by_cases h18:op=18
 ·subst h18
  have e:m=2:=by simp[arity]at hm;omega
  subst e
  obtain ⟨⟨xk,xn,xs⟩,⟨yk,yn,ys⟩,b,off,rfl,rfl⟩:=hx.len2
  cases q:(xk==0)
  ·exact RB zz kd nu ar st nm w b off c xk xn yk yn xs ys hx q
  ·exact RD zz kd nu ar st nm w b off c xk xn yk yn xs ys hx q
 have e1:lW op=false:=by simp[lW,h0,Nk,Nl,h16,Ig,h18]
 simp only[Nr,e1]
 exact UX op kd nu ar st nm (by simpa using h0) (by simpa using Nk) (by simpa using Nl) (by simpa using h16) (by simpa using Ig) (by simpa using h18) w _
theorem vL {x y:Val}(h:x≠y):(bf x y==0)=false/\(bf x y != 0)=true:=by
 have:bf x y≠0:=λq=>h (wK.1 q)
 simp[this]
theorem DX {x y:Val}(h:x=y):(bf x y==0)=true/\(bf x y != 0)=false:=by
 have:bf x y=0:=wK.2 h
 simp[this]
theorem Bh (zz:List Zone)(x:Node)(hsh:shaped x=true)(h1:x.op≠1)(h21:x.op≠21)(hsp:lW x.op=false)(m:Nat)(hm:arity x.op x.arity=(m:Int))(w:World)(A:Option Addr)(c:Nat)(xs:List Val)(hx:In w A m c xs)(hv: ∀v∈xs,valid v=true)(hnn: ∀v∈xs,v.kind≠0)(hb:x.op=2-> ∀v∈xs,v.kind=1)(A2:Option Addr)(n2 c2:Nat)(hz:In w A2 n2 c2 zz):
  Calls Tryz.prog 145 #[.agg x.cells.toArray,.slice A m c,.slice A2 n2 c2] w λe w'=>e=.returned (.agg (eO zz x xs).cells.toArray)/\Below w.heap.size w w':=by
 have hop:=mq hsh h1 h21
 obtain ⟨op,⟨kd,nu,st⟩,nm,ar⟩:=x
 simp only at hm hop hsp hb h1 h21
 clear hsh
 simp[lW]at hsp
 by_cases hu:op=2\/op=3\/op=19\/op=20
 ·have e:m=1:=by rw[arity,if_neg (by omega),if_pos (by omega)]at hm;omega
  subst e
  obtain ⟨⟨xk,xn,xs⟩,b,off,rfl,rfl⟩:=hx.len1
  have v1:=hv ⟨xk,xn,xs⟩ (by simp)
  have n1:=hnn ⟨xk,xn,xs⟩ (by simp)
  rcases hu with rfl|rfl|rfl|rfl
  ·exact Xp zz kd nu ar st nm w b off c xk xn xs hx n1 (hb rfl ⟨xk,xn,xs⟩ (by simp)) v1 A2 n2 c2 hz
  ·exact Xq zz kd nu ar st nm w b off c xk xn xs hx n1 (mD v1) A2 n2 c2 hz
  ·exact TK zz kd nu ar st nm w b off c xk xn xs hx n1 A2 n2 c2 hz
  ·exact TL zz kd nu ar st nm w b off c xk xn xs hx n1 A2 n2 c2 hz
 ·have e:m=2:=by rw[arity,if_neg (by omega),if_neg (by omega),if_neg (by omega),if_neg h21,if_pos (by omega)]at hm;omega
  subst e
  obtain ⟨⟨xk,xn,xs⟩,⟨yk,yn,ys⟩,b,off,rfl,rfl⟩:=hx.len2
  have v1:=hv ⟨xk,xn,xs⟩ (by simp)
  have n1:=hnn ⟨xk,xn,xs⟩ (by simp)
  have v2:=hv ⟨yk,yn,ys⟩ (by simp)
  have Gt:=hnn ⟨yk,yn,ys⟩ (by simp)
  by_cases har:4<=op/\op<=8
  ·exact TP op zz kd nu ar st nm w b off c xk xn yk yn xs ys hx n1 Gt har (mD v1) (mD v2) A2 n2 c2 hz
  obtain rfl|rfl|rfl|rfl|rfl:op=9\/op=10\/op=11\/op=12\/op=13:=by omega
  ·by_cases hl:64<(xs++ys).size
   ·exact TN zz kd nu ar st nm w b off c xk xn yk yn xs ys hx n1 Gt (mE v1) (mE v2) hl A2 n2 c2 hz
   ·exact TM zz kd nu ar st nm w b off c xk xn yk yn xs ys hx n1 Gt (mE v1) (mE v2) hl A2 n2 c2 hz
  ·cases d0:(xk==yk)
   ·exact wI 10 false false (.inl ⟨rfl,rfl⟩) zz kd nu ar st nm w b off c xk xn yk yn xs ys hx n1 Gt (vL (λh=>by injection h with h _ _;simp[h]at d0)) (.inl ⟨d0,rfl⟩) A2 n2 c2 hz
   ·cases d1:(xn==yn)
    ·exact wI 10 false false (.inl ⟨rfl,rfl⟩) zz kd nu ar st nm w b off c xk xn yk yn xs ys hx n1 Gt (vL (λh=>by injection h with _ h _;simp[h]at d1)) (.inr (.inl ⟨d0,d1,rfl⟩)) A2 n2 c2 hz
    ·cases d2:(xs.toList==ys.toList)
     ·exact wI 10 false false (.inl ⟨rfl,rfl⟩) zz kd nu ar st nm w b off c xk xn yk yn xs ys hx n1 Gt (vL (λh=>by injection h with _ _ h;simp[h]at d2)) (.inr (.inr (.inl ⟨d0,d1,d2,rfl⟩))) A2 n2 c2 hz
     ·exact wI 10 true true (.inl ⟨rfl,rfl⟩) zz kd nu ar st nm w b off c xk xn yk yn xs ys hx n1 Gt (DX (by simp at d0 d1 d2;rw[d0,d1,pF d2])) (.inr (.inr (.inr ⟨d0,d1,d2,rfl⟩))) A2 n2 c2 hz
  ·cases d0:(xk==yk)
   ·exact wI 11 false true (.inr ⟨rfl,rfl⟩) zz kd nu ar st nm w b off c xk xn yk yn xs ys hx n1 Gt (vL (λh=>by injection h with h _ _;simp[h]at d0)) (.inl ⟨d0,rfl⟩) A2 n2 c2 hz
   ·cases d1:(xn==yn)
    ·exact wI 11 false true (.inr ⟨rfl,rfl⟩) zz kd nu ar st nm w b off c xk xn yk yn xs ys hx n1 Gt (vL (λh=>by injection h with _ h _;simp[h]at d1)) (.inr (.inl ⟨d0,d1,rfl⟩)) A2 n2 c2 hz
    ·cases d2:(xs.toList==ys.toList)
     ·exact wI 11 false true (.inr ⟨rfl,rfl⟩) zz kd nu ar st nm w b off c xk xn yk yn xs ys hx n1 Gt (vL (λh=>by injection h with _ _ h;simp[h]at d2)) (.inr (.inr (.inl ⟨d0,d1,d2,rfl⟩))) A2 n2 c2 hz
     ·exact wI 11 true false (.inr ⟨rfl,rfl⟩) zz kd nu ar st nm w b off c xk xn yk yn xs ys hx n1 Gt (DX (by simp at d0 d1 d2;rw[d0,d1,pF d2])) (.inr (.inr (.inr ⟨d0,d1,d2,rfl⟩))) A2 n2 c2 hz
  ·exact TI zz kd nu ar st nm w b off c xk xn yk yn xs ys hx n1 Gt A2 n2 c2 hz
  ·exact TJ zz kd nu ar st nm w b off c xk xn yk yn xs ys hx n1 Gt A2 n2 c2 hz
def kD:Nat->List Val->Int
 | _,[]=> -1
 |k,v :: l=>if v.kind=0 then k else kD (k+1) l
theorem BA: ∀(l:List Val) (k:Nat),(decide (0<=kD k l))=l.any λv=>v.kind==0
 | [],k=>by simp[kD]
 |v :: l,k=>by
  rw[kD,List.any_cons]
  by_cases h:v.kind=0
  ·rw[if_pos h];simp[h]
  ·rw[if_neg h,BA l (k+1)];simp[h]
theorem AB (w:World)(A:Option Addr)(n c:Nat)(xs:List Val)(hx:In w A n c xs)(hv: ∀v∈xs,valid v=true):
  Calls Tryz.prog 176 #[.slice A n c,.agg #[.int .i64 0,.int .i64 0,.string ⟨#[]⟩]] w λe w'=>e=.returned (.int .i64 (kD 0 xs))/\Below w.heap.size w w':=by
 have h63:=hx.le
 have HV:=hide hv
 clear hv
 go_enter Tryz.func176,Tryz.ntmps176
 go_wp2
 obtain ⟨w1,hw1⟩: ∃w1,w1=w.alloc (.cells #[.int .i64 0,.int .i64 0,.string ⟨#[]⟩] 74):=⟨_,rfl⟩
 have g0:w1.cell? ⟨w.heap.size,0,none⟩=some (.int .i64 0):=by rw[hw1];simp[go_sem]
 have g1:w1.cell? ⟨w.heap.size,1,none⟩=some (.int .i64 0):=by rw[hw1];simp[go_sem]
 have g2:w1.cell? ⟨w.heap.size,2,none⟩=some (.string ⟨#[]⟩):=by rw[hw1];simp[go_sem]
 have hb1:Below w.heap.size w w1:=by rw[hw1];exact af
 rw[<-hw1]
 clear hw1
 go_loopw [8] (λi wr=> ∃(k q:Nat),k<=n/\i=.int .i64 k/\kD 0 xs=kD k (xs.drop k)/\wr=w1.drewN q) (λi _=>n-(intOf i).toNat)
 case atStart=>exact ⟨0,0,Nat.zero_le _,rfl,rfl,rfl⟩
 case round=>
  obtain ⟨k,q,hk,rfl,heq,rfl⟩:=hrel
  have HE:=hide heq
  clear heq
  by_cases hlt:k<n
  ·obtain ⟨b,off,x,rfl,hB,HX,f0,f1,f2,hok⟩:=(hx.below hb1).val hlt
   have YC:=HV.out x (List.mem_of_mem_drop (i:=k) (by rw[HX.out];simp))
   have g0':w1.cell? ⟨w.heap.size,0,none⟩=some (.int .i64 0):=g0
   have g1':w1.cell? ⟨w.heap.size,1,none⟩=some (.int .i64 0):=g1
   have g2':w1.cell? ⟨w.heap.size,2,none⟩=some (.string ⟨#[]⟩):=g2
   have k0:(0:Int)<=(k:Int):=by omega
   have k1:(k:Int)<(n:Int):=by omega
   by_cases h0:x.kind=0
   ·obtain rfl:=AQ YC h0
    have HN:Hid (kD 0 xs=(k:Int)):=hide (by rw[HE.out,HX.out,kD,if_pos h0])
    clear h0 YC
    have f0':w1.cell? ⟨b,off+k*3,none⟩=some (.int .i64 0):=f0
    have f1':w1.cell? ⟨b,off+k*3+1,none⟩=some (.int .i64 0):=f1
    have f2':w1.cell? ⟨b,off+k*3+2,none⟩=some (.string ⟨#[]⟩):=f2
    clear f0 f1 f2
    go_wp2
    go_quiet (fail)
    go_wp2
    go_ret
    exact ⟨ak HN.out.symm,below_drewN (below_drewN hb1 _) _⟩
   ·have HN:Hid (kD 0 xs=kD (k+1) (xs.drop (k+1))):=hide (by rw[HE.out,HX.out,kD,if_neg h0])
    have f0':w1.cell? ⟨b,off+k*3,none⟩=some (.int .i64 x.kind):=f0
    have f1':w1.cell? ⟨b,off+k*3+1,none⟩=some (.int .i64 x.num):=f1
    have f2':w1.cell? ⟨b,off+k*3+2,none⟩=some (.string x.str):=f2
    clear f0 f1 f2
    have q0:((0:Int)==x.kind)=false:=by simp;omega
    have q1:(x.kind==0)=false:=by simpa using h0
    go_wp2
    go_quiet (fail)
    go_wp2
    go_roundw
    case rel=>exact ⟨k+1,_,by omega,by go_num,HN.out,rfl⟩
    case measure=>simp[intOf];omega
  ·have HN:Hid (kD 0 xs= -1):=hide (by rw[HE.out,aP hx.len (by omega),kD])
   go_wp2
   go_ret
   exact ⟨ak HN.out.symm,below_drewN hb1 _⟩
theorem jB (w:World)(A:Option Addr)(n c:Nat)(xs:List Val)(hx:In w A n c xs)(hv: ∀v∈xs,valid v=true):
  Calls Tryz.prog 144 #[.slice A n c,.agg #[.int .i64 0,.int .i64 0,.string ⟨#[]⟩]] w λe w'=>e=.returned (.bool (xs.any λv=>v.kind==0))/\Below w.heap.size w w':=by
 have HN:=hide (BA xs 0)
 go_enter Tryz.func144,Tryz.ntmps144
 go_wp2_with fail
 refine (AB _ _ _ _ xs (hx.below af) hv).mono ?_
 rintro e w1 ⟨rfl,hb1⟩
 go_wp2
 go_ret
 exact ⟨ay HN.out,aa af hb1⟩
def pairs:List Col->List Val->List (ByteArray×Value)
 |c :: cs,v :: vs=>(c.name,.agg v.cells.toArray) :: pairs cs vs
 | _,_=>[]
theorem zH {c:Col}{v:Val}: ∀{cs:List Col} {vs:List Val},cs.length=vs.length->pairs (cs++[c]) (vs++[v])=pairs cs vs++[(c.name,.agg v.cells.toArray)]
 | [],[],_=>rfl
 |a :: cs,b :: vs,h=>by
  have:=zH (c:=c) (v:=v) (cs:=cs) (vs:=vs) (by simpa using h)
  rw[List.cons_append,List.cons_append,pairs,this,pairs]
  rfl
 | [],_ :: _,h=>by simp at h
 | _ :: _,[],h=>by simp at h
theorem rE {name:ByteArray}: ∀{cols:List Col} {row:List Val} {k:Nat},cols.length=row.length->
  (aU name k cols= -1->j5 name (pairs cols row)=none)/\(∀j:Nat,aU name k cols=((k+j:Nat):Int)->j5 name (pairs cols row)=some (.agg (row.getD j aW).cells.toArray))
 | [],[],k,_=>⟨λ_=>rfl,λj h=>by rw[aU]at h;omega⟩
 |c :: cols,v :: row,k,h=>by
  have ih:=rE (name:=name) (cols:=cols) (row:=row) (k:=k+1) (by simpa using h)
  have hr:=iY name cols (k+1)
  rw[pairs,aU]
  by_cases hn:(c.name.toList==name.toList)=true
  ·rw[if_pos hn]
   refine ⟨λq=>by omega,λj q=>?_⟩
   obtain rfl:j=0:=by omega
   have hn':(name.toList==c.name.toList)=true:=by rw[BEq.comm];exact hn
   simp[j5,hn']
  ·rw[if_neg hn]
   have hn':(name.toList==c.name.toList)=false:=by
    rw[BEq.comm];simpa using hn
   refine ⟨λq=>?_,λj q=>?_⟩
   ·have:=ih.1 q
    simpa[j5,hn'] using this
   ·have hj:0<j:=by
     rcases hr with hr|hr
     ·omega
     ·omega
    obtain ⟨j,rfl⟩: ∃i,j=i+1:=⟨j-1,by omega⟩
    have:=ih.2 j (by rw[q];congr 1;omega)
    simpa[j5,hn'] using this
 | [],_ :: _,_,h=>by simp at h
 | _ :: _,[],_,h=>by simp at h
theorem ru (name:ByteArray): ∀(l:List Col) (i k:Nat),aU name i (l.take k)= -1\/(aU name i l<i+k)
 | [],i,k=>by simp[aU]
 |c :: l,i,0=>by simp[aU]
 |c :: l,i,k+1=>by
  rw[List.take_succ_cons,aU,aU]
  split
  ·right;omega
  ·rcases ru name l (i+1) k with h|h
   ·exact .inl h
   ·right;omega
theorem MC {cols:List Col}{row:List Val}{k:Nat}{c:Col}(hc:aD cols=0)(hl:cols.length=row.length)(hk:cols[k]?=some c):j5 c.name (pairs (cols.take k) (row.take k))=none:=by
 refine (rE (k:=0) (by rw[List.length_take,List.length_take,hl])).1 ?_
 rcases ru c.name cols 0 k with h|h
 ·exact h
 ·exfalso
  rw[aD]at hc
  split at hc
  ·omega
  ·have:=dQ hc k c hk
   rw[ib]at this
   (repeat' split at this) <;> first|omega|(rename_i q;exact q (by rw[index];omega))
theorem GJ {cols:List Col}{row:List Val}{k:Nat}{c:Col}{v:Val}(hl:cols.length=row.length)(hk:cols[k]?=some c)(hv:row[k]?=some v):pairs (cols.take (k+1)) (row.take (k+1))=pairs (cols.take k) (row.take k)++[(c.name,.agg v.cells.toArray)]:=by
 rw[List.take_add_one,List.take_add_one,hk,hv]
 exact zH (by rw[List.length_take,List.length_take,hl])
theorem MB {cols:List Col}{row:List Val}{name:ByteArray}(hl:cols.length=row.length)(hi:0<=index cols name):j5 name (pairs cols row)=some (.agg (row.getD (index cols name).toNat aW).cells.toArray):=by
 refine (rE (k:=0) hl).2 _ ?_
 rw[index]at*
 omega
theorem EP {zz:List Zone}{x:Node}{m:Nat}{xs:List Val}(hsh:shaped x=true)(h1:x.op≠1)(h21:x.op≠21)(hsp:lW x.op=false)(hm:arity x.op x.arity=(m:Int))(hl:xs.length=m)(hn:(xs.any λv=>v.kind==0)=true):eO zz x xs=aW:=by
 have hop:=mq hsh h1 h21
 obtain ⟨op,v,nm,ar⟩:=x
 simp only at hm hop hsp h1 h21
 simp[lW]at hsp
 by_cases hu:op=2\/op=3\/op=19\/op=20
 ·have e:m=1:=by rw[arity,if_neg (by omega),if_pos (by omega)]at hm;omega
  subst e
  obtain ⟨a,rfl⟩:=wU hl
  have h0:a.kind=0:=by simpa using hn
  simp only[eO]
  rw[xP,if_neg (by omega),if_pos h0]
 ·have e:m=2:=by rw[arity,if_neg (by omega),if_neg (by omega),if_neg (by omega),if_neg h21,if_pos (by omega)]at hm;omega
  subst e
  obtain ⟨a,b,rfl⟩:=Mx hl
  have h0:a.kind=0\/b.kind=0:=by simpa using hn
  simp only[eO]
  rw[if_neg (by omega),if_neg (by omega),if_neg (by omega),if_pos h0]
theorem jC {cols:List Col}{row:List Val}{zz:List Zone}{x:Node}{xs:List Val}(h1:x.op≠1):je cols row zz x xs=eO zz x xs:=by rw[je,if_neg h1]
theorem xm {zz:List Zone}{x:Node}{xs:List Val}(h:lW x.op=true):Nr zz x xs=eO zz x xs:=by rw[Nr,if_pos h]
theorem x9 {zz:List Zone}{x:Node}{xs:List Val}(h:lW x.op=false):Nr zz x xs=aW:=by rw[Nr,h];rfl
end Go.Proofs.YtggejcekmehocaaGreatDoor
