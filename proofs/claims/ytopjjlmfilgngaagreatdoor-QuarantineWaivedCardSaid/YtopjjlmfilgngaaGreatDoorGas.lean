/-
  scalar.special and apply at any node; slices.Contains over values: is there a null? Plain law: what a map from the columns' names to a row's values holds; nodes of which an operand is null. No program is in sight.
-/
import Derived.Test.YtopjjlmfilgngaaGreatDoorAppB
import Derived.Test.YtopjjlmfilgngaaGreatDoorGap
import Derived.Test.YtopjjlmfilgngaaGreatDoorMap
namespace Go.Proofs.YtopjjlmfilgngaaGreatDoor
set_option maxHeartbeats 1000000
set_option maxRecDepth 100000
open Go.RowKit
set_option linter.unusedSimpArgs false
set_option linter.unusedVariables false
def jd (op:Int):Bool:=op==0 || (op==14 || (op==15 || (op==16 || (op==17 || op==18))))
def Dj (zz:List Zone)(n:Node)(l:List Val):Val:=if jd n.op then pO zz n l else bz
theorem dm (zz:List Zone)(x:Node)(hsh:shaped x=true)(hko:x.ok)(m:Nat)(hm:arity x.op x.arity=(m:Int))(w:World)(A:Option Addr)(c:Nat)(xs:List Val)(hx:In w A m c xs):
  Calls Tryz.prog 189 #[.agg x.cells.toArray,.slice A m c] w λe w'=>e=.returned (.tuple #[.agg (Dj zz x xs).cells.toArray,.bool (jd x.op)])/\Below w.heap.size w w':=by
 have hop:=hko.2.2.2.2;obtain ⟨op,⟨kd,nu,st⟩,nm,ar⟩:=x;simp only[Dy]at hm hop;clear hsh hko;have e1:jd op=false:=by rcases hop with rfl|rfl|rfl <;> rfl
 simp only[Dj,e1];exact Jm op kd nu ar st nm (by simp;omega) (by simp;omega) (by simp;omega) (by simp;omega) (by simp;omega) (by simp;omega) w _
theorem sH (zz:List Zone)(x:Node)(hsh:shaped x=true)(hko:x.ok)(h1:x.op≠1)(h21:x.op≠21)(hsp:jd x.op=false)(m:Nat)(hm:arity x.op x.arity=(m:Int))(w:World)(A:Option Addr)(c:Nat)(xs:List Val)(hx:In w A m c xs)(hv: ∀v∈xs,valid v=true)(hnn: ∀v∈xs,v.kind≠0)(hb:x.op=2-> ∀v∈xs,v.kind=1)(A2:Option Addr)(n2 c2:Nat)(hz:In w A2 n2 c2 zz):
  Calls Tryz.prog 191 #[.agg x.cells.toArray,.slice A m c,.slice A2 n2 c2] w λe w'=>e=.returned (.agg (pO zz x xs).cells.toArray)/\Below w.heap.size w w':=by
 have hop:=hko.2.2.2.2;obtain ⟨op,⟨kd,nu,st⟩,nm,ar⟩:=x;simp only[Dy]at hm hop h1;clear hsh hko hb;obtain rfl|rfl|rfl:=hop
 ·exact absurd rfl h1
 ·have e:m=2:=by simp[arity]at hm;omega
  subst e;obtain ⟨⟨xk,xn,xs⟩,⟨yk,yn,ys⟩,b,off,rfl,rfl⟩:=hx.len2;exact Iw zz kd nu ar st nm w b off c xk xn yk yn xs ys hx (hnn ⟨xk,xn,xs⟩ (by simp)) (hnn ⟨yk,yn,ys⟩ (by simp)) A2 n2 c2 hz
 ·have e:m=2:=by simp[arity]at hm;omega
  subst e;obtain ⟨⟨xk,xn,xs⟩,⟨yk,yn,ys⟩,b,off,rfl,rfl⟩:=hx.len2;exact Iy zz kd nu ar st nm w b off c xk xn yk yn xs ys hx (hnn ⟨xk,xn,xs⟩ (by simp)) (hnn ⟨yk,yn,ys⟩ (by simp)) A2 n2 c2 hz
def fH:Nat->List Val->Int
 | _,[]=> -1
 |k,v :: l=>if v.kind=0 then k else fH (k+1) l
theorem tu: ∀(l:List Val) (k:Nat),(decide (0<=fH k l))=l.any λv=>v.kind==0
 | [],k=>by simp[fH]
 |v :: l,k=>by
  rw[fH,List.any_cons];by_cases h:v.kind=0
  ·rw[if_pos h];simp[h]
  ·rw[if_neg h,tu l (k+1)];simp[h]
theorem rU (w:World)(A:Option Addr)(n c:Nat)(xs:List Val)(hx:In w A n c xs)(hv: ∀v∈xs,valid v=true):
  Calls Tryz.prog 216 #[.slice A n c,.agg #[.int .i64 0,.int .i64 0,.string ⟨#[]⟩]] w λe w'=>e=.returned (.int .i64 (fH 0 xs))/\Below w.heap.size w w':=by
 have h63:=hx.le;have HV:=hide hv;clear hv;go_enter Tryz.func216,Tryz.ntmps216;go_wp2;obtain ⟨w1,hw1⟩: ∃w1,w1=w.alloc (.cells #[.int .i64 0,.int .i64 0,.string ⟨#[]⟩] 36):=⟨_,rfl⟩;have g0:w1.cell? ⟨w.heap.size,0,none⟩=some (.int .i64 0):=by rw[hw1];simp[go_sem]
 have g1:w1.cell? ⟨w.heap.size,1,none⟩=some (.int .i64 0):=by rw[hw1];simp[go_sem]
 have g2:w1.cell? ⟨w.heap.size,2,none⟩=some (.string ⟨#[]⟩):=by rw[hw1];simp[go_sem]
 have hb1:Below w.heap.size w w1:=by rw[hw1];exact ae
 rw[<-hw1];clear hw1;go_loopw [8] (λi wr=> ∃(k q:Nat),k<=n/\i=.int .i64 k/\fH 0 xs=fH k (xs.drop k)/\wr=w1.drewN q) (λi _=>n-(intOf i).toNat)
 case atStart=>exact ⟨0,0,Nat.zero_le _,rfl,rfl,rfl⟩
 case round=>
  obtain ⟨k,q,hk,rfl,heq,rfl⟩:=hrel;have HE:=hide heq;clear heq;by_cases hlt:k<n
  ·obtain ⟨b,off,x,rfl,hB,HX,f0,f1,f2,hok⟩:=(hx.below hb1).val hlt;have Nq:=HV.out x (List.mem_of_mem_drop (i:=k) (by rw[HX.out];simp));have g0':w1.cell? ⟨w.heap.size,0,none⟩=some (.int .i64 0):=g0;have g1':w1.cell? ⟨w.heap.size,1,none⟩=some (.int .i64 0):=g1;have g2':w1.cell? ⟨w.heap.size,2,none⟩=some (.string ⟨#[]⟩):=g2;have k0:(0:Int)<=(k:Int):=by omega
   have k1:(k:Int)<(n:Int):=by omega
   by_cases h0:x.kind=0
   ·obtain rfl:=si Nq h0;have HN:Hid (fH 0 xs=(k:Int)):=hide (by rw[HE.out,HX.out,fH,if_pos h0]);clear h0 Nq;have f0':w1.cell? ⟨b,off+k*3,none⟩=some (.int .i64 0):=f0;have f1':w1.cell? ⟨b,off+k*3+1,none⟩=some (.int .i64 0):=f1;have f2':w1.cell? ⟨b,off+k*3+2,none⟩=some (.string ⟨#[]⟩):=f2;clear f0 f1 f2;go_wp2;go_quiet (fail);go_wp2;go_ret;exact ⟨ai HN.out.symm,below_drewN (below_drewN hb1 _) _⟩
   ·have HN:Hid (fH 0 xs=fH (k+1) (xs.drop (k+1))):=hide (by rw[HE.out,HX.out,fH,if_neg h0]);have f0':w1.cell? ⟨b,off+k*3,none⟩=some (.int .i64 x.kind):=f0;have f1':w1.cell? ⟨b,off+k*3+1,none⟩=some (.int .i64 x.num):=f1;have f2':w1.cell? ⟨b,off+k*3+2,none⟩=some (.string x.str):=f2;clear f0 f1 f2;have q0:((0:Int)==x.kind)=false:=by simp;omega
    have q1:(x.kind==0)=false:=by simpa using h0
    go_wp2;go_quiet (fail);go_wp2;go_roundw
    case rel=>exact ⟨k+1,_,by omega,by go_num,HN.out,rfl⟩
    case measure=>simp[intOf];omega
  ·have HN:Hid (fH 0 xs= -1):=hide (by rw[HE.out,aM hx.len (by omega),fH]);go_wp2;go_ret;exact ⟨ai HN.out.symm,below_drewN hb1 _⟩
theorem dV (w:World)(A:Option Addr)(n c:Nat)(xs:List Val)(hx:In w A n c xs)(hv: ∀v∈xs,valid v=true):
  Calls Tryz.prog 190 #[.slice A n c,.agg #[.int .i64 0,.int .i64 0,.string ⟨#[]⟩]] w λe w'=>e=.returned (.bool (xs.any λv=>v.kind==0))/\Below w.heap.size w w':=by
 have HN:=hide (tu xs 0);go_enter Tryz.func190,Tryz.ntmps190;go_wp2_with fail;refine (rU _ _ _ _ xs (hx.below ae) hv).mono ?_;rintro e w1 ⟨rfl,hb1⟩;go_wp2;go_ret;exact ⟨ak HN.out,aa ae hb1⟩
def pairs:List Col->List Val->List (ByteArray×Value)
 |c :: cs,v :: vs=>(c.name,.agg v.cells.toArray) :: pairs cs vs
 | _,_=>[]
theorem qN {c:Col}{v:Val}: ∀{cs:List Col} {vs:List Val},cs.length=vs.length->pairs (cs++[c]) (vs++[v])=pairs cs vs++[(c.name,.agg v.cells.toArray)]
 | [],[],_=>rfl
 |a :: cs,b :: vs,h=>by
  have:=qN (c:=c) (v:=v) (cs:=cs) (vs:=vs) (by simpa using h);rw[List.cons_append,List.cons_append,pairs,this,pairs];rfl
 | [],_ :: _,h=>by simp at h
 | _ :: _,[],h=>by simp at h
theorem kQ {name:ByteArray}: ∀{cols:List Col} {row:List Val} {k:Nat},cols.length=row.length->
  (aC name k cols= -1->eU name (pairs cols row)=none)/\(∀j:Nat,aC name k cols=((k+j:Nat):Int)->eU name (pairs cols row)=some (.agg (row.getD j bz).cells.toArray))
 | [],[],k,_=>⟨λ_=>rfl,λj h=>by rw[aC]at h;omega⟩
 |c :: cols,v :: row,k,h=>by
  have ih:=kQ (name:=name) (cols:=cols) (row:=row) (k:=k+1) (by simpa using h);have hr:=eO name cols (k+1);rw[pairs,aC];by_cases hn:(c.name.toList==name.toList)=true
  ·rw[if_pos hn];refine ⟨λq=>by omega,λj q=>?_⟩;obtain rfl:j=0:=by omega
   have hn':(name.toList==c.name.toList)=true:=by rw[BEq.comm];exact hn
   simp[eU,hn']
  ·rw[if_neg hn];have hn':(name.toList==c.name.toList)=false:=by
    rw[BEq.comm];simpa using hn
   refine ⟨λq=>?_,λj q=>?_⟩
   ·have:=ih.1 q;simpa[eU,hn'] using this
   ·have hj:0<j:=by
     rcases hr with hr|hr
     ·omega
     ·omega
    obtain ⟨j,rfl⟩: ∃i,j=i+1:=⟨j-1,by omega⟩;have:=ih.2 j (by rw[q];congr 1;omega);simpa[eU,hn'] using this
 | [],_ :: _,_,h=>by simp at h
 | _ :: _,[],_,h=>by simp at h
theorem kL (name:ByteArray): ∀(l:List Col) (i k:Nat),aC name i (l.take k)= -1\/(aC name i l<i+k)
 | [],i,k=>by simp[aC]
 |c :: l,i,0=>by simp[aC]
 |c :: l,i,k+1=>by
  rw[List.take_succ_cons,aC,aC]
  split
  ·right;omega
  ·rcases kL name l (i+1) k with h|h
   ·exact .inl h
   ·right;omega
theorem Ck {cols:List Col}{row:List Val}{k:Nat}{c:Col}(hc:ax cols=0)(hl:cols.length=row.length)(hk:cols[k]?=some c):eU c.name (pairs (cols.take k) (row.take k))=none:=by
 refine (kQ (k:=0) (by rw[List.length_take,List.length_take,hl])).1 ?_;rcases kL c.name cols 0 k with h|h
 ·exact h
 ·exfalso;rw[ax]at hc
  split at hc
  ·omega
  ·have:=bA hc k c hk;rw[iq]at this
   (repeat' split at this) <;> first|omega|(rename_i q;exact q (by rw[index];omega))
theorem xR {cols:List Col}{row:List Val}{k:Nat}{c:Col}{v:Val}(hl:cols.length=row.length)(hk:cols[k]?=some c)(hv:row[k]?=some v):pairs (cols.take (k+1)) (row.take (k+1))=pairs (cols.take k) (row.take k)++[(c.name,.agg v.cells.toArray)]:=by
 rw[List.take_add_one,List.take_add_one,hk,hv];exact qN (by rw[List.length_take,List.length_take,hl])
theorem Cj {cols:List Col}{row:List Val}{name:ByteArray}(hl:cols.length=row.length)(hi:0<=index cols name):eU name (pairs cols row)=some (.agg (row.getD (index cols name).toNat bz).cells.toArray):=by
 refine (kQ (k:=0) hl).2 _ ?_;rw[index]at*;omega
theorem wu {zz:List Zone}{x:Node}{m:Nat}{xs:List Val}(hsh:shaped x=true)(h1:x.op≠1)(h21:x.op≠21)(hsp:jd x.op=false)(hm:arity x.op x.arity=(m:Int))(hl:xs.length=m)(hn:(xs.any λv=>v.kind==0)=true):pO zz x xs=bz:=by
 have hop:=tK hsh h1 h21;obtain ⟨op,v,nm,ar⟩:=x;simp only at hm hop hsp h1 h21;simp[jd]at hsp;by_cases hu:op=2\/op=3\/op=19\/op=20
 ·have e:m=1:=by rw[arity,if_neg (by omega),if_pos (by omega)]at hm;omega
  subst e;obtain ⟨a,rfl⟩:=oI hl;have h0:a.kind=0:=by simpa using hn
  simp only[pO];rw[Aa,if_neg (by omega),if_pos h0]
 ·have e:m=2:=by rw[arity,if_neg (by omega),if_neg (by omega),if_neg (by omega),if_neg h21,if_pos (by omega)]at hm;omega
  subst e;obtain ⟨a,b,rfl⟩:=Ci hl;have h0:a.kind=0\/b.kind=0:=by simpa using hn
  simp only[pO];rw[if_neg (by omega),if_neg (by omega),if_neg (by omega),if_pos h0]
theorem dX {cols:List Col}{row:List Val}{zz:List Zone}{x:Node}{xs:List Val}(h1:x.op≠1):eF cols row zz x xs=pO zz x xs:=by rw[eF,if_neg h1]
theorem oU {zz:List Zone}{x:Node}{xs:List Val}(h:jd x.op=true):Dj zz x xs=pO zz x xs:=by rw[Dj,if_pos h]
theorem pR {zz:List Zone}{x:Node}{xs:List Val}(h:jd x.op=false):Dj zz x xs=bz:=by rw[Dj,h];rfl
end Go.Proofs.YtopjjlmfilgngaaGreatDoor
