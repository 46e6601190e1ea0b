/-
  scalar.special and apply at any node; slices.Contains over values: is there a null? Plain law: what a map from the columns' names to a row's values holds; nodes of which an operand is null. No program is in sight.
-/
import Derived.Test.YtggejcekmehocaaGreatDoorAppB
import Derived.Test.YtggejcekmehocaaGreatDoorGau
import Derived.Test.YtggejcekmehocaaGreatDoorGao
namespace Go.Proofs.YtggejcekmehocaaGreatDoor
set_option maxHeartbeats 1000000
set_option maxRecDepth 100000
open Go.RowKit
set_option linter.unusedSimpArgs false
set_option linter.unusedVariables false
theorem valid_num {v:Val}(h:valid v=true):Bnd30 v.num:=by
 unfold Bnd30
 rw[valid]at h
 (repeat' split at h) <;> simp at h <;> omega
theorem noStr_size {s:ByteArray}(h:noStr s=true):s.size=0:=by
 rw[noStr,List.isEmpty_iff]at h
 have:s.size=s.toList.length:=by rw[ByteArray.toList_eq];rfl
 rw[this,h];rfl
theorem valid_str {v:Val}(h:valid v=true):v.str.size<=64:=by
 rw[valid]at h
 (repeat' split at h) <;> simp at h
 all_goals first|(have:=noStr_size h.2;omega)|(have:=noStr_size h.1;omega)|omega
def isSpec (op:Int):Bool:=op==0 || (op==14 || (op==15 || (op==16 || (op==17 || op==18))))
def spV (zz:List Zone)(n:Node)(l:List Val):Val:=if isSpec n.op then opV zz n l else nullV
theorem special_any (zz:List Zone)(x:Node)(hsh:shaped x=true)(m:Nat)(hm:arity x.op x.arity=(m:Int))(w:World)(A:Option Addr)(c:Nat)(xs:List Val)(hx:In w A m c xs):
  Calls Tryz.prog 143 #[.agg x.cells.toArray,.slice A m c] w λe w'=>e=.returned (.tuple #[.agg (spV zz x xs).cells.toArray,.bool (isSpec x.op)])/\Below w.heap.size w w':=by
 obtain ⟨op,⟨kd,nu,st⟩,nm,ar⟩:=x
 simp only at hm
 clear hsh
 by_cases h0:op=0
 ·subst h0
  have e:m=0:=by simp[arity]at hm;omega
  subst e
  obtain rfl:=hx.len0
  exact sp_0 zz kd nu ar st nm w A c
 by_cases h14:op=14
 ·subst h14
  have e:m=2:=by simp[arity]at hm;omega
  subst e
  obtain ⟨⟨xk,xn,xs⟩,⟨yk,yn,ys⟩,b,off,rfl,rfl⟩:=hx.len2
  exact sp_14 zz kd nu ar st nm w b off c xk xn yk yn xs ys hx
 by_cases h15:op=15
 ·subst h15
  have e:m=2:=by simp[arity]at hm;omega
  subst e
  obtain ⟨⟨xk,xn,xs⟩,⟨yk,yn,ys⟩,b,off,rfl,rfl⟩:=hx.len2
  exact sp_15 zz kd nu ar st nm w b off c xk xn yk yn xs ys hx
 by_cases h16:op=16
 ·subst h16
  have e:m=1:=by simp[arity]at hm;omega
  subst e
  obtain ⟨⟨xk,xn,xs⟩,b,off,rfl,rfl⟩:=hx.len1
  exact sp_16 zz kd nu ar st nm w b off c xk xn xs hx
 by_cases h17:op=17
 ·subst h17
  have e:m=3:=by simp[arity]at hm;omega
  subst e
  obtain ⟨⟨xk,xn,xs⟩,⟨yk,yn,ys⟩,⟨zk,zn,zs⟩,b,off,rfl,rfl⟩:=hx.len3
  cases q:(truth ⟨xk,xn,xs⟩==1)
  ·exact sp_17f zz kd nu ar st nm w b off c xk xn yk yn zk zn xs ys zs hx q
  ·exact sp_17t zz kd nu ar st nm w b off c xk xn yk yn zk zn xs ys zs hx q
 by_cases h18:op=18
 ·subst h18
  have e:m=2:=by simp[arity]at hm;omega
  subst e
  obtain ⟨⟨xk,xn,xs⟩,⟨yk,yn,ys⟩,b,off,rfl,rfl⟩:=hx.len2
  cases q:(xk==0)
  ·exact sp_18f zz kd nu ar st nm w b off c xk xn yk yn xs ys hx q
  ·exact sp_18t zz kd nu ar st nm w b off c xk xn yk yn xs ys hx q
 have e1:isSpec op=false:=by simp[isSpec,h0,h14,h15,h16,h17,h18]
 simp only[spV,e1]
 exact sp_no op kd nu ar st nm (by simpa using h0) (by simpa using h14) (by simpa using h15) (by simpa using h16) (by simpa using h17) (by simpa using h18) w _
theorem cmp_ne {x y:Val}(h:x≠y):(cmpVal x y==0)=false/\(cmpVal x y != 0)=true:=by
 have:cmpVal x y≠0:=λq=>h (cmpVal_zero.1 q)
 simp[this]
theorem cmp_same {x y:Val}(h:x=y):(cmpVal x y==0)=true/\(cmpVal x y != 0)=false:=by
 have:cmpVal x y=0:=cmpVal_zero.2 h
 simp[this]
theorem apply_any (zz:List Zone)(x:Node)(hsh:shaped x=true)(h1:x.op≠1)(h21:x.op≠21)(hsp:isSpec x.op=false)(m:Nat)(hm:arity x.op x.arity=(m:Int))(w:World)(A:Option Addr)(c:Nat)(xs:List Val)(hx:In w A m c xs)(hv: ∀v∈xs,valid v=true)(hnn: ∀v∈xs,v.kind≠0)(hb:x.op=2-> ∀v∈xs,v.kind=1)(A2:Option Addr)(n2 c2:Nat)(hz:In w A2 n2 c2 zz):
  Calls Tryz.prog 145 #[.agg x.cells.toArray,.slice A m c,.slice A2 n2 c2] w λe w'=>e=.returned (.agg (opV zz x xs).cells.toArray)/\Below w.heap.size w w':=by
 have hop:=shaped_op hsh h1 h21
 obtain ⟨op,⟨kd,nu,st⟩,nm,ar⟩:=x
 simp only at hm hop hsp hb h1 h21
 clear hsh
 simp[isSpec]at hsp
 by_cases hu:op=2\/op=3\/op=19\/op=20
 ·have e:m=1:=by rw[arity,if_neg (by omega),if_pos (by omega)]at hm;omega
  subst e
  obtain ⟨⟨xk,xn,xs⟩,b,off,rfl,rfl⟩:=hx.len1
  have v1:=hv ⟨xk,xn,xs⟩ (by simp)
  have n1:=hnn ⟨xk,xn,xs⟩ (by simp)
  rcases hu with rfl|rfl|rfl|rfl
  ·exact ap_2 zz kd nu ar st nm w b off c xk xn xs hx n1 (hb rfl ⟨xk,xn,xs⟩ (by simp)) v1 A2 n2 c2 hz
  ·exact ap_3 zz kd nu ar st nm w b off c xk xn xs hx n1 (valid_num v1) A2 n2 c2 hz
  ·exact ap_19 zz kd nu ar st nm w b off c xk xn xs hx n1 A2 n2 c2 hz
  ·exact ap_20 zz kd nu ar st nm w b off c xk xn xs hx n1 A2 n2 c2 hz
 ·have e:m=2:=by rw[arity,if_neg (by omega),if_neg (by omega),if_neg (by omega),if_neg h21,if_pos (by omega)]at hm;omega
  subst e
  obtain ⟨⟨xk,xn,xs⟩,⟨yk,yn,ys⟩,b,off,rfl,rfl⟩:=hx.len2
  have v1:=hv ⟨xk,xn,xs⟩ (by simp)
  have n1:=hnn ⟨xk,xn,xs⟩ (by simp)
  have v2:=hv ⟨yk,yn,ys⟩ (by simp)
  have n2':=hnn ⟨yk,yn,ys⟩ (by simp)
  by_cases har:4<=op/\op<=8
  ·exact ap_ar op zz kd nu ar st nm w b off c xk xn yk yn xs ys hx n1 n2' har (valid_num v1) (valid_num v2) A2 n2 c2 hz
  obtain rfl|rfl|rfl|rfl|rfl:op=9\/op=10\/op=11\/op=12\/op=13:=by omega
  ·by_cases hl:64<(xs++ys).size
   ·exact ap_9t zz kd nu ar st nm w b off c xk xn yk yn xs ys hx n1 n2' (valid_str v1) (valid_str v2) hl A2 n2 c2 hz
   ·exact ap_9n zz kd nu ar st nm w b off c xk xn yk yn xs ys hx n1 n2' (valid_str v1) (valid_str v2) hl A2 n2 c2 hz
  ·cases d0:(xk==yk)
   ·exact ap_eq 10 false false (.inl ⟨rfl,rfl⟩) zz kd nu ar st nm w b off c xk xn yk yn xs ys hx n1 n2' (cmp_ne (λh=>by injection h with h _ _;simp[h]at d0)) (.inl ⟨d0,rfl⟩) A2 n2 c2 hz
   ·cases d1:(xn==yn)
    ·exact ap_eq 10 false false (.inl ⟨rfl,rfl⟩) zz kd nu ar st nm w b off c xk xn yk yn xs ys hx n1 n2' (cmp_ne (λh=>by injection h with _ h _;simp[h]at d1)) (.inr (.inl ⟨d0,d1,rfl⟩)) A2 n2 c2 hz
    ·cases d2:(xs.toList==ys.toList)
     ·exact ap_eq 10 false false (.inl ⟨rfl,rfl⟩) zz kd nu ar st nm w b off c xk xn yk yn xs ys hx n1 n2' (cmp_ne (λh=>by injection h with _ _ h;simp[h]at d2)) (.inr (.inr (.inl ⟨d0,d1,d2,rfl⟩))) A2 n2 c2 hz
     ·exact ap_eq 10 true true (.inl ⟨rfl,rfl⟩) zz kd nu ar st nm w b off c xk xn yk yn xs ys hx n1 n2' (cmp_same (by simp at d0 d1 d2;rw[d0,d1,byteArray_eq d2])) (.inr (.inr (.inr ⟨d0,d1,d2,rfl⟩))) A2 n2 c2 hz
  ·cases d0:(xk==yk)
   ·exact ap_eq 11 false true (.inr ⟨rfl,rfl⟩) zz kd nu ar st nm w b off c xk xn yk yn xs ys hx n1 n2' (cmp_ne (λh=>by injection h with h _ _;simp[h]at d0)) (.inl ⟨d0,rfl⟩) A2 n2 c2 hz
   ·cases d1:(xn==yn)
    ·exact ap_eq 11 false true (.inr ⟨rfl,rfl⟩) zz kd nu ar st nm w b off c xk xn yk yn xs ys hx n1 n2' (cmp_ne (λh=>by injection h with _ h _;simp[h]at d1)) (.inr (.inl ⟨d0,d1,rfl⟩)) A2 n2 c2 hz
    ·cases d2:(xs.toList==ys.toList)
     ·exact ap_eq 11 false true (.inr ⟨rfl,rfl⟩) zz kd nu ar st nm w b off c xk xn yk yn xs ys hx n1 n2' (cmp_ne (λh=>by injection h with _ _ h;simp[h]at d2)) (.inr (.inr (.inl ⟨d0,d1,d2,rfl⟩))) A2 n2 c2 hz
     ·exact ap_eq 11 true false (.inr ⟨rfl,rfl⟩) zz kd nu ar st nm w b off c xk xn yk yn xs ys hx n1 n2' (cmp_same (by simp at d0 d1 d2;rw[d0,d1,byteArray_eq d2])) (.inr (.inr (.inr ⟨d0,d1,d2,rfl⟩))) A2 n2 c2 hz
  ·exact ap_12 zz kd nu ar st nm w b off c xk xn yk yn xs ys hx n1 n2' A2 n2 c2 hz
  ·exact ap_13 zz kd nu ar st nm w b off c xk xn yk yn xs ys hx n1 n2' A2 n2 c2 hz
def nullAt:Nat->List Val->Int
 | _,[]=> -1
 |k,v :: l=>if v.kind=0 then k else nullAt (k+1) l
theorem nullAt_nn: ∀(l:List Val) (k:Nat),(decide (0<=nullAt k l))=l.any λv=>v.kind==0
 | [],k=>by simp[nullAt]
 |v :: l,k=>by
  rw[nullAt,List.any_cons]
  by_cases h:v.kind=0
  ·rw[if_pos h];simp[h]
  ·rw[if_neg h,nullAt_nn l (k+1)];simp[h]
theorem indexNull_any (w:World)(A:Option Addr)(n c:Nat)(xs:List Val)(hx:In w A n c xs)(hv: ∀v∈xs,valid v=true):
  Calls Tryz.prog 176 #[.slice A n c,.agg #[.int .i64 0,.int .i64 0,.string ⟨#[]⟩]] w λe w'=>e=.returned (.int .i64 (nullAt 0 xs))/\Below w.heap.size w w':=by
 have h63:=hx.le
 have HV:=hide hv
 clear hv
 go_enter Tryz.func176,Tryz.ntmps176
 go_wp2
 obtain ⟨w1,hw1⟩: ∃w1,w1=w.alloc (.cells #[.int .i64 0,.int .i64 0,.string ⟨#[]⟩] 74):=⟨_,rfl⟩
 have g0:w1.cell? ⟨w.heap.size,0,none⟩=some (.int .i64 0):=by rw[hw1];simp[go_sem]
 have g1:w1.cell? ⟨w.heap.size,1,none⟩=some (.int .i64 0):=by rw[hw1];simp[go_sem]
 have g2:w1.cell? ⟨w.heap.size,2,none⟩=some (.string ⟨#[]⟩):=by rw[hw1];simp[go_sem]
 have hb1:Below w.heap.size w w1:=by rw[hw1];exact below_alloc
 rw[<-hw1]
 clear hw1
 go_loopw [8] (λi wr=> ∃(k q:Nat),k<=n/\i=.int .i64 k/\nullAt 0 xs=nullAt k (xs.drop k)/\wr=w1.drewN q) (λi _=>n-(intOf i).toNat)
 case atStart=>exact ⟨0,0,Nat.zero_le _,rfl,rfl,rfl⟩
 case round=>
  obtain ⟨k,q,hk,rfl,heq,rfl⟩:=hrel
  have HE:=hide heq
  clear heq
  by_cases hlt:k<n
  ·obtain ⟨b,off,x,rfl,hB,HX,f0,f1,f2,hok⟩:=(hx.below hb1).val hlt
   have hvx:=HV.out x (List.mem_of_mem_drop (i:=k) (by rw[HX.out];simp))
   have g0':w1.cell? ⟨w.heap.size,0,none⟩=some (.int .i64 0):=g0
   have g1':w1.cell? ⟨w.heap.size,1,none⟩=some (.int .i64 0):=g1
   have g2':w1.cell? ⟨w.heap.size,2,none⟩=some (.string ⟨#[]⟩):=g2
   have k0:(0:Int)<=(k:Int):=by omega
   have k1:(k:Int)<(n:Int):=by omega
   by_cases h0:x.kind=0
   ·obtain rfl:=valid_null_eq hvx h0
    have HN:Hid (nullAt 0 xs=(k:Int)):=hide (by rw[HE.out,HX.out,nullAt,if_pos h0])
    clear h0 hvx
    have f0':w1.cell? ⟨b,off+k*3,none⟩=some (.int .i64 0):=f0
    have f1':w1.cell? ⟨b,off+k*3+1,none⟩=some (.int .i64 0):=f1
    have f2':w1.cell? ⟨b,off+k*3+2,none⟩=some (.string ⟨#[]⟩):=f2
    clear f0 f1 f2
    go_wp2
    go_quiet (fail)
    go_wp2
    go_ret
    exact ⟨ret_int HN.out.symm,below_drewN (below_drewN hb1 _) _⟩
   ·have HN:Hid (nullAt 0 xs=nullAt (k+1) (xs.drop (k+1))):=hide (by rw[HE.out,HX.out,nullAt,if_neg h0])
    have f0':w1.cell? ⟨b,off+k*3,none⟩=some (.int .i64 x.kind):=f0
    have f1':w1.cell? ⟨b,off+k*3+1,none⟩=some (.int .i64 x.num):=f1
    have f2':w1.cell? ⟨b,off+k*3+2,none⟩=some (.string x.str):=f2
    clear f0 f1 f2
    have q0:((0:Int)==x.kind)=false:=by simp;omega
    have q1:(x.kind==0)=false:=by simpa using h0
    go_wp2
    go_quiet (fail)
    go_wp2
    go_roundw
    case rel=>exact ⟨k+1,_,by omega,by go_num,HN.out,rfl⟩
    case measure=>simp[intOf];omega
  ·have HN:Hid (nullAt 0 xs= -1):=hide (by rw[HE.out,drop_end hx.len (by omega),nullAt])
   go_wp2
   go_ret
   exact ⟨ret_int HN.out.symm,below_drewN hb1 _⟩
theorem containsNull_any (w:World)(A:Option Addr)(n c:Nat)(xs:List Val)(hx:In w A n c xs)(hv: ∀v∈xs,valid v=true):
  Calls Tryz.prog 144 #[.slice A n c,.agg #[.int .i64 0,.int .i64 0,.string ⟨#[]⟩]] w λe w'=>e=.returned (.bool (xs.any λv=>v.kind==0))/\Below w.heap.size w w':=by
 have HN:=hide (nullAt_nn xs 0)
 go_enter Tryz.func144,Tryz.ntmps144
 go_wp2_with fail
 refine (indexNull_any _ _ _ _ xs (hx.below below_alloc) hv).mono ?_
 rintro e w1 ⟨rfl,hb1⟩
 go_wp2
 go_ret
 exact ⟨ret_bool HN.out,below_trans below_alloc hb1⟩
def pairs:List Col->List Val->List (ByteArray×Value)
 |c :: cs,v :: vs=>(c.name,.agg v.cells.toArray) :: pairs cs vs
 | _,_=>[]
theorem pairs_snoc {c:Col}{v:Val}: ∀{cs:List Col} {vs:List Val},cs.length=vs.length->pairs (cs++[c]) (vs++[v])=pairs cs vs++[(c.name,.agg v.cells.toArray)]
 | [],[],_=>rfl
 |a :: cs,b :: vs,h=>by
  have:=pairs_snoc (c:=c) (v:=v) (cs:=cs) (vs:=vs) (by simpa using h)
  rw[List.cons_append,List.cons_append,pairs,this,pairs]
  rfl
 | [],_ :: _,h=>by simp at h
 | _ :: _,[],h=>by simp at h
theorem lookS_pairs {name:ByteArray}: ∀{cols:List Col} {row:List Val} {k:Nat},cols.length=row.length->
  (indexFrom name k cols= -1->lookS name (pairs cols row)=none)/\(∀j:Nat,indexFrom name k cols=((k+j:Nat):Int)->lookS name (pairs cols row)=some (.agg (row.getD j nullV).cells.toArray))
 | [],[],k,_=>⟨λ_=>rfl,λj h=>by rw[indexFrom]at h;omega⟩
 |c :: cols,v :: row,k,h=>by
  have ih:=lookS_pairs (name:=name) (cols:=cols) (row:=row) (k:=k+1) (by simpa using h)
  have hr:=indexFrom_range name cols (k+1)
  rw[pairs,indexFrom]
  by_cases hn:(c.name.toList==name.toList)=true
  ·rw[if_pos hn]
   refine ⟨λq=>by omega,λj q=>?_⟩
   obtain rfl:j=0:=by omega
   have hn':(name.toList==c.name.toList)=true:=by rw[BEq.comm];exact hn
   simp[lookS,hn']
  ·rw[if_neg hn]
   have hn':(name.toList==c.name.toList)=false:=by
    rw[BEq.comm];simpa using hn
   refine ⟨λq=>?_,λj q=>?_⟩
   ·have:=ih.1 q
    simpa[lookS,hn'] using this
   ·have hj:0<j:=by
     rcases hr with hr|hr
     ·omega
     ·omega
    obtain ⟨j,rfl⟩: ∃i,j=i+1:=⟨j-1,by omega⟩
    have:=ih.2 j (by rw[q];congr 1;omega)
    simpa[lookS,hn'] using this
 | [],_ :: _,_,h=>by simp at h
 | _ :: _,[],_,h=>by simp at h
theorem indexFrom_take (name:ByteArray): ∀(l:List Col) (i k:Nat),indexFrom name i (l.take k)= -1\/(indexFrom name i l<i+k)
 | [],i,k=>by simp[indexFrom]
 |c :: l,i,0=>by simp[indexFrom]
 |c :: l,i,k+1=>by
  rw[List.take_succ_cons,indexFrom,indexFrom]
  split
  ·right;omega
  ·rcases indexFrom_take name l (i+1) k with h|h
   ·exact .inl h
   ·right;omega
theorem look_new {cols:List Col}{row:List Val}{k:Nat}{c:Col}(hc:colsErr cols=0)(hl:cols.length=row.length)(hk:cols[k]?=some c):lookS c.name (pairs (cols.take k) (row.take k))=none:=by
 refine (lookS_pairs (k:=0) (by rw[List.length_take,List.length_take,hl])).1 ?_
 rcases indexFrom_take c.name cols 0 k with h|h
 ·exact h
 ·exfalso
  rw[colsErr]at hc
  split at hc
  ·omega
  ·have:=firstErr_zero_all hc k c hk
   rw[colErr]at this
   (repeat' split at this) <;> first|omega|(rename_i q;exact q (by rw[index];omega))
theorem pairs_next {cols:List Col}{row:List Val}{k:Nat}{c:Col}{v:Val}(hl:cols.length=row.length)(hk:cols[k]?=some c)(hv:row[k]?=some v):pairs (cols.take (k+1)) (row.take (k+1))=pairs (cols.take k) (row.take k)++[(c.name,.agg v.cells.toArray)]:=by
 rw[List.take_add_one,List.take_add_one,hk,hv]
 exact pairs_snoc (by rw[List.length_take,List.length_take,hl])
theorem look_col {cols:List Col}{row:List Val}{name:ByteArray}(hl:cols.length=row.length)(hi:0<=index cols name):lookS name (pairs cols row)=some (.agg (row.getD (index cols name).toNat nullV).cells.toArray):=by
 refine (lookS_pairs (k:=0) hl).2 _ ?_
 rw[index]at*
 omega
theorem opV_null {zz:List Zone}{x:Node}{m:Nat}{xs:List Val}(hsh:shaped x=true)(h1:x.op≠1)(h21:x.op≠21)(hsp:isSpec x.op=false)(hm:arity x.op x.arity=(m:Int))(hl:xs.length=m)(hn:(xs.any λv=>v.kind==0)=true):opV zz x xs=nullV:=by
 have hop:=shaped_op hsh h1 h21
 obtain ⟨op,v,nm,ar⟩:=x
 simp only at hm hop hsp h1 h21
 simp[isSpec]at hsp
 by_cases hu:op=2\/op=3\/op=19\/op=20
 ·have e:m=1:=by rw[arity,if_neg (by omega),if_pos (by omega)]at hm;omega
  subst e
  obtain ⟨a,rfl⟩:=list1 hl
  have h0:a.kind=0:=by simpa using hn
  simp only[opV]
  rw[unV,if_neg (by omega),if_pos h0]
 ·have e:m=2:=by rw[arity,if_neg (by omega),if_neg (by omega),if_neg (by omega),if_neg h21,if_pos (by omega)]at hm;omega
  subst e
  obtain ⟨a,b,rfl⟩:=list2 hl
  have h0:a.kind=0\/b.kind=0:=by simpa using hn
  simp only[opV]
  rw[if_neg (by omega),if_neg (by omega),if_neg (by omega),if_pos h0]
theorem node_not_col {cols:List Col}{row:List Val}{zz:List Zone}{x:Node}{xs:List Val}(h1:x.op≠1):nodeV cols row zz x xs=opV zz x xs:=by rw[nodeV,if_neg h1]
theorem spV_special {zz:List Zone}{x:Node}{xs:List Val}(h:isSpec x.op=true):spV zz x xs=opV zz x xs:=by rw[spV,if_pos h]
theorem spV_not {zz:List Zone}{x:Node}{xs:List Val}(h:isSpec x.op=false):spV zz x xs=nullV:=by rw[spV,h];rfl
end Go.Proofs.YtggejcekmehocaaGreatDoor
