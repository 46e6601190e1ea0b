/-
  scalar.apply: with its operands it returns opV. (Printed by gen_app.py.) scalar.special and apply at any node; slices.Contains over values: is there a null? Plain law: what a map from the columns' names to a row's values holds; nodes of which an operand is null. No program is in sight.
-/
import Derived.Test.YtopjjlmfilgngaaGreatDoorGau
namespace Go.Proofs.YtopjjlmfilgngaaGreatDoor
set_option maxHeartbeats 2000000
set_option maxRecDepth 100000
open Go.RowKit
set_option linter.unusedSimpArgs false
set_option linter.unusedVariables false
theorem Pk (J:List Zone)(kd r q:Int)(st nm:ByteArray)(w:World)(b off:Nat)(c:Nat)(g k i l:Int)(xs m:ByteArray)(P:In w (some ⟨b,off,none⟩) 2 c ([⟨g,k,xs⟩,⟨i,l,m⟩]:List Val))(B:¬g=0)(C:¬i=0)(A2:Option Addr)(n2 c2:Nat)(hz:In w A2 n2 c2 J):
  Calls Tryz.prog 191 #[.agg #[.int .i64 12,.int .i64 kd,.int .i64 r,.string st,.string nm,.int .i64 q],.slice (some ⟨b,off,none⟩) 2 c,.slice A2 n2 c2] w λe w'=>e=.returned (.agg (vG J ⟨12,⟨kd,r,st⟩,nm,q⟩ ([⟨g,k,xs⟩,⟨i,l,m⟩]:List Val)).cells.toArray)/\Below w.heap.size w w':=by
 have T:Hl (vG J ⟨12,⟨kd,r,st⟩,nm,q⟩ ([⟨g,k,xs⟩,⟨i,l,m⟩]:List Val)=j5 (decide (iq ⟨g,k,xs⟩ ⟨i,l,m⟩<0))):=Hm (by simp only[vG,Int.reduceEq,if_false];rw[if_neg (by rintro(h|h);exact B h;exact C h)];simp only[jH,mF,Int.reduceEq,or_self,or_false,false_or,or_true,true_or,if_false,if_true]);obtain⟨A,X,ad⟩:=pU P (show 0<2 by omega) (x:=⟨g,k,xs⟩) rfl;obtain⟨A,Y,ae⟩:=pU P (show 1<2 by omega) (x:=⟨i,l,m⟩) rfl;have aa:=Hm B;clear B;have ab:=Hm C;clear C;go_enter Tryz.func191,Tryz.ntmps191;go_wp2;obtain⟨Q,O,Z,N0,N1,N2,N3,N4, -,j⟩:=Dq w 12 kd r q st nm;rw[<-O];clear O;have ac:w.heap.size<Q.heap.size:=Nat.lt_trans (show w.heap.size<w.heap.size+1 by omega) Z.o.lt;have n:b<Q.heap.size:=by have:=j.size;omega
 have a:¬b=w.heap.size+1:=by omega
 obtain⟨D,E,F⟩:=V3.below X j A;obtain⟨G,H,I⟩:=V3.below Y j A;simp only[Nat.zero_mul,Nat.one_mul,Nat.add_zero,Nat.reduceMul]at D E F G H I;go_region_held3 (λV=>V.cell? ⟨b,off,none⟩=some (.int .i64 g)/\V.cell? ⟨b,off+1,none⟩=some (.int .i64 k)/\V.cell? ⟨b,off+2,none⟩=some (.string xs)/\V.cell? ⟨b,off+3,none⟩=some (.int .i64 i)/\V.cell? ⟨b,off+3+1,none⟩=some (.int .i64 l)/\V.cell? ⟨b,off+3+2,none⟩=some (.string m)) (first|exact⟨D,E,F,G,H,I⟩|exact⟨s,t,u,v,y,z⟩|exact⟨fM (fM (fM s (.inl a)) (.inl a)) (.inl a),fM (fM (fM t (.inl a)) (.inl a)) (.inl a),fM (fM (fM u (.inl a)) (.inl a)) (.inl a),fM (fM (fM v (.inl a)) (.inl a)) (.inl a),fM (fM (fM y (.inl a)) (.inl a)) (.inl a),fM (fM (fM z (.inl a)) (.inl a)) (.inl a)⟩) (first|(go_at_call 58;refine(Cv ⟨g,k,xs⟩ ⟨i,l,m⟩ _).mono ?_;rintro e W ⟨rfl,L⟩;have f:=fP L;have s:=fO f n D;have t:=fO f n E;have u:=fO f n F;have v:=fO f n G;have y:=fO f n H;have z:=fO f n I;have Z:=Hm (Z.o.below f);have j:=fH j f;clear L;have p:b<W.heap.size:=Nat.lt_of_lt_of_le n f.size;generalize N:iq ⟨g,k,xs⟩ ⟨i,l,m⟩=K;have S:=Hm N;clear N)|(go_at_call 215;refine(Bq (decide (K<0)) _).mono ?_;rintro e w2 ⟨rfl,d⟩;have s:=fO d p s;have t:=fO d p t;have u:=fO d p u;have v:=fO d p v;have y:=fO d p y;have z:=fO d p z;have Z:=Hm (Z.o.below d);have j:=fH j d;clear d;obtain⟨z0,z1,z2,f0,f1,f2,_⟩:=Z.o;generalize M:j5 (decide (K<0))=U;obtain⟨bk,bn,bs⟩:=U;have R:=Hm M;clear M;simp only[Val.cells]));go_wp2;refine tF rfl Z.o rfl rfl ⟨by rw[T.o,S.o,R.o],gK j (by omega) _ _ _⟩
theorem Pm (J:List Zone)(kd r q:Int)(st nm:ByteArray)(w:World)(b off:Nat)(c:Nat)(g k i l:Int)(xs m:ByteArray)(P:In w (some ⟨b,off,none⟩) 2 c ([⟨g,k,xs⟩,⟨i,l,m⟩]:List Val))(B:¬g=0)(C:¬i=0)(A2:Option Addr)(n2 c2:Nat)(hz:In w A2 n2 c2 J):
  Calls Tryz.prog 191 #[.agg #[.int .i64 13,.int .i64 kd,.int .i64 r,.string st,.string nm,.int .i64 q],.slice (some ⟨b,off,none⟩) 2 c,.slice A2 n2 c2] w λe w'=>e=.returned (.agg (vG J ⟨13,⟨kd,r,st⟩,nm,q⟩ ([⟨g,k,xs⟩,⟨i,l,m⟩]:List Val)).cells.toArray)/\Below w.heap.size w w':=by
 have T:Hl (vG J ⟨13,⟨kd,r,st⟩,nm,q⟩ ([⟨g,k,xs⟩,⟨i,l,m⟩]:List Val)=j5 (decide (iq ⟨g,k,xs⟩ ⟨i,l,m⟩<=0))):=Hm (by simp only[vG,Int.reduceEq,if_false];rw[if_neg (by rintro(h|h);exact B h;exact C h)];simp only[jH,mF,Int.reduceEq,or_self,or_false,false_or,or_true,true_or,if_false,if_true]);obtain⟨A,X,ad⟩:=pU P (show 0<2 by omega) (x:=⟨g,k,xs⟩) rfl;obtain⟨A,Y,ae⟩:=pU P (show 1<2 by omega) (x:=⟨i,l,m⟩) rfl;have aa:=Hm B;clear B;have ab:=Hm C;clear C;go_enter Tryz.func191,Tryz.ntmps191;go_wp2;obtain⟨Q,O,Z,N0,N1,N2,N3,N4, -,j⟩:=Dq w 13 kd r q st nm;rw[<-O];clear O;have ac:w.heap.size<Q.heap.size:=Nat.lt_trans (show w.heap.size<w.heap.size+1 by omega) Z.o.lt;have n:b<Q.heap.size:=by have:=j.size;omega
 have a:¬b=w.heap.size+1:=by omega
 obtain⟨D,E,F⟩:=V3.below X j A;obtain⟨G,H,I⟩:=V3.below Y j A;simp only[Nat.zero_mul,Nat.one_mul,Nat.add_zero,Nat.reduceMul]at D E F G H I;go_region_held3 (λV=>V.cell? ⟨b,off,none⟩=some (.int .i64 g)/\V.cell? ⟨b,off+1,none⟩=some (.int .i64 k)/\V.cell? ⟨b,off+2,none⟩=some (.string xs)/\V.cell? ⟨b,off+3,none⟩=some (.int .i64 i)/\V.cell? ⟨b,off+3+1,none⟩=some (.int .i64 l)/\V.cell? ⟨b,off+3+2,none⟩=some (.string m)) (first|exact⟨D,E,F,G,H,I⟩|exact⟨s,t,u,v,y,z⟩|exact⟨fM (fM (fM s (.inl a)) (.inl a)) (.inl a),fM (fM (fM t (.inl a)) (.inl a)) (.inl a),fM (fM (fM u (.inl a)) (.inl a)) (.inl a),fM (fM (fM v (.inl a)) (.inl a)) (.inl a),fM (fM (fM y (.inl a)) (.inl a)) (.inl a),fM (fM (fM z (.inl a)) (.inl a)) (.inl a)⟩) (first|(go_at_call 58;refine(Cv ⟨g,k,xs⟩ ⟨i,l,m⟩ _).mono ?_;rintro e W ⟨rfl,L⟩;have f:=fP L;have s:=fO f n D;have t:=fO f n E;have u:=fO f n F;have v:=fO f n G;have y:=fO f n H;have z:=fO f n I;have Z:=Hm (Z.o.below f);have j:=fH j f;clear L;have p:b<W.heap.size:=Nat.lt_of_lt_of_le n f.size;generalize N:iq ⟨g,k,xs⟩ ⟨i,l,m⟩=K;have S:=Hm N;clear N)|(go_at_call 215;refine(Bq (decide (K<=0)) _).mono ?_;rintro e w2 ⟨rfl,d⟩;have s:=fO d p s;have t:=fO d p t;have u:=fO d p u;have v:=fO d p v;have y:=fO d p y;have z:=fO d p z;have Z:=Hm (Z.o.below d);have j:=fH j d;clear d;obtain⟨z0,z1,z2,f0,f1,f2,_⟩:=Z.o;generalize M:j5 (decide (K<=0))=U;obtain⟨bk,bn,bs⟩:=U;have R:=Hm M;clear M;simp only[Val.cells]));go_wp2;refine tF rfl Z.o rfl rfl ⟨by rw[T.o,S.o,R.o],gK j (by omega) _ _ _⟩
theorem Cm {v:Val}(h:valid v=true):gD v.num:=by
 unfold gD;rw[valid]at h
 (repeat' split at h)<;>simp at h<;>omega
theorem zy {s:ByteArray}(h:jI s=true):s.size=0:=by
 rw[jI,List.isEmpty_iff]at h;have:s.size=s.toList.length:=by rw[ByteArray.toList_eq];rfl
 rw[this,h];rfl
theorem Cn {v:Val}(h:valid v=true):v.str.size<=64:=by
 rw[valid]at h
 (repeat' split at h)<;>simp at h
 all_goals first|(have:=zy h.2;omega)|(have:=zy h.1;omega)|omega
def qR (a:Int):Bool:=a==0 || (a==14 || (a==15 || (a==16 || (a==17 || a==18))))
def Mt (a:List Zone)(n:Node)(l:List Val):Val:=if qR n.op then vG a n l else iG
theorem kY (k:List Zone)(x:Node)(i:shaped x=true)(a:x.ok)(m:Nat)(h:arity x.op x.arity=(m:Int))(w:World)(A:Option Addr)(c:Nat)(xs:List Val)(l:In w A m c xs):
  Calls Tryz.prog 189 #[.agg x.cells.toArray,.slice A m c] w λe w'=>e=.returned (.tuple #[.agg (Mt k x xs).cells.toArray,.bool (qR x.op)])/\Below w.heap.size w w':=by
 have b:=a.2.2.2.2;obtain⟨d,⟨kd,j,st⟩,nm,f⟩:=x;simp only[Fq]at h b;clear i a;have g:qR d=false:=by rcases b with rfl|rfl|rfl<;>rfl
 simp only[Mt,g];exact Py d kd j f st nm (by simp;omega) (by simp;omega) (by simp;omega) (by simp;omega) (by simp;omega) (by simp;omega) w _
theorem Bp (k:List Zone)(x:Node)(t:shaped x=true)(p:x.ok)(o:x.op≠1)(u:x.op≠21)(y:qR x.op=false)(m:Nat)(l:arity x.op x.arity=(m:Int))(w:World)(A:Option Addr)(c:Nat)(xs:List Val)(j:In w A m c xs)(z: ∀v∈xs,valid v=true)(i: ∀v∈xs,v.kind≠0)(hb:x.op=2-> ∀v∈xs,v.kind=1)(A2:Option Addr)(n2 c2:Nat)(r:In w A2 n2 c2 k):
  Calls Tryz.prog 191 #[.agg x.cells.toArray,.slice A m c,.slice A2 n2 c2] w λe w'=>e=.returned (.agg (vG k x xs).cells.toArray)/\Below w.heap.size w w':=by
 have q:=p.2.2.2.2;obtain⟨B,⟨kd,s,st⟩,nm,n⟩:=x;simp only[Fq]at l q o;clear t p hb;obtain rfl|rfl|rfl:=q
 ·exact absurd rfl o
 ·have e:m=2:=by simp[arity]at l;omega
  subst e;obtain⟨⟨a,d,xs⟩,⟨f,g,h⟩,b,off,rfl,rfl⟩:=j.len2;exact Pk k kd s n st nm w b off c a d f g xs h j (i ⟨a,d,xs⟩ (by simp)) (i ⟨f,g,h⟩ (by simp)) A2 n2 c2 r
 ·have e:m=2:=by simp[arity]at l;omega
  subst e;obtain⟨⟨a,d,xs⟩,⟨f,g,h⟩,b,off,rfl,rfl⟩:=j.len2;exact Pm k kd s n st nm w b off c a d f g xs h j (i ⟨a,d,xs⟩ (by simp)) (i ⟨f,g,h⟩ (by simp)) A2 n2 c2 r
def nM:Nat->List Val->Int
 | _,[]=> -1
 |k,v::l=>if v.kind=0 then k else nM (k+1) l
theorem BZ: ∀(l:List Val) (k:Nat),(decide (0<=nM k l))=l.any λv=>v.kind==0
 | [],k=>by simp[nM]
 |v::l,k=>by
  rw[nM,List.any_cons];by_cases h:v.kind=0
  ·rw[if_pos h];simp[h]
  ·rw[if_neg h,BZ l (k+1)];simp[h]
theorem AO (w:World)(A:Option Addr)(n c:Nat)(xs:List Val)(r:In w A n c xs)(t: ∀v∈xs,valid v=true):
  Calls Tryz.prog 216 #[.slice A n c,.agg #[.int .i64 0,.int .i64 0,.string ⟨#[]⟩]] w λe w'=>e=.returned (.int .i64 (nM 0 xs))/\Below w.heap.size w w':=by
 have K:=r.le;have y:=Hm t;clear t;go_enter Tryz.func216,Tryz.ntmps216;go_wp2;obtain⟨a,d⟩: ∃a,a=w.alloc (.cells #[.int .i64 0,.int .i64 0,.string ⟨#[]⟩] 36):=⟨_,rfl⟩;have D:a.cell? ⟨w.heap.size,0,none⟩=some (.int .i64 0):=by rw[d];simp[go_sem]
 have E:a.cell? ⟨w.heap.size,1,none⟩=some (.int .i64 0):=by rw[d];simp[go_sem]
 have F:a.cell? ⟨w.heap.size,2,none⟩=some (.string ⟨#[]⟩):=by rw[d];simp[go_sem]
 have p:Below w.heap.size w a:=by rw[d];exact fI
 rw[<-d];clear d;go_loopw [8] (λi wr=> ∃(k q:Nat),k<=n/\i=.int .i64 k/\nM 0 xs=nM k (xs.drop k)/\wr=a.drewN q) (λi _=>n-(intOf i).toNat)
 case atStart=>exact⟨0,0,Nat.zero_le _,rfl,rfl,rfl⟩
 case round=>
  obtain⟨k,q,M,rfl,s,rfl⟩:=hrel;have l:=Hm s;clear s;by_cases G:k<n
  ·obtain⟨b,off,x,rfl,L,m,h,f1,j,N⟩:=(r.below p).val G;have u:=y.o x (List.mem_of_mem_drop (i:=k) (by rw[m.o];simp));have H:a.cell? ⟨w.heap.size,0,none⟩=some (.int .i64 0):=D;have I:a.cell? ⟨w.heap.size,1,none⟩=some (.int .i64 0):=E;have J:a.cell? ⟨w.heap.size,2,none⟩=some (.string ⟨#[]⟩):=F;have O:(0:Int)<=(k:Int):=by omega
   have P:(k:Int)<(n:Int):=by omega
   by_cases g:x.kind=0
   ·obtain rfl:=AY u g;have f:Hl (nM 0 xs=(k:Int)):=Hm (by rw[l.o,m.o,nM,if_pos g]);clear g u;have z:a.cell? ⟨b,off+k*3,none⟩=some (.int .i64 0):=h;have B:a.cell? ⟨b,off+k*3+1,none⟩=some (.int .i64 0):=f1;have C:a.cell? ⟨b,off+k*3+2,none⟩=some (.string ⟨#[]⟩):=j;clear h f1 j;go_wp2;go_quiet (fail);go_wp2;go_ret;exact⟨fV f.o.symm,below_drewN (below_drewN p _) _⟩
   ·have f:Hl (nM 0 xs=nM (k+1) (xs.drop (k+1))):=Hm (by rw[l.o,m.o,nM,if_neg g]);have z:a.cell? ⟨b,off+k*3,none⟩=some (.int .i64 x.kind):=h;have B:a.cell? ⟨b,off+k*3+1,none⟩=some (.int .i64 x.num):=f1;have C:a.cell? ⟨b,off+k*3+2,none⟩=some (.string x.str):=j;clear h f1 j;have Q:((0:Int)==x.kind)=false:=by simp;omega
    have R:(x.kind==0)=false:=by simpa using g
    go_wp2;go_quiet (fail);go_wp2;go_roundw
    case rel=>exact⟨k+1,_,by omega,by go_num,f.o,rfl⟩
    case measure=>simp[intOf];omega
  ·have f:Hl (nM 0 xs= -1):=Hm (by rw[l.o,gG r.len (by omega),nM]);go_wp2;go_ret;exact⟨fV f.o.symm,below_drewN p _⟩
theorem mo (w:World)(A:Option Addr)(n c:Nat)(xs:List Val)(f:In w A n c xs)(d: ∀v∈xs,valid v=true):
  Calls Tryz.prog 190 #[.slice A n c,.agg #[.int .i64 0,.int .i64 0,.string ⟨#[]⟩]] w λe w'=>e=.returned (.bool (xs.any λv=>v.kind==0))/\Below w.heap.size w w':=by
 have a:=Hm (BZ xs 0);go_enter Tryz.func190,Tryz.ntmps190;go_wp2_with fail;refine(AO _ _ _ _ xs (f.below fI) d).mono ?_;rintro e g ⟨rfl,b⟩;go_wp2;go_ret;exact⟨gp a.o,fH fI b⟩
def pairs:List Col->List Val->List (ByteArray×Value)
 |c::cs,v::vs=>(c.name,.agg v.cells.toArray)::pairs cs vs
 | _,_=>[]
theorem zH {c:Col}{v:Val}: ∀{cs:List Col} {vs:List Val},cs.length=vs.length->pairs (cs++[c]) (vs++[v])=pairs cs vs++[(c.name,.agg v.cells.toArray)]
 | [],[],_=>rfl
 |a::cs,b::vs,h=>by
  have:=zH (c:=c) (v:=v) (cs:=cs) (vs:=vs) (by simpa using h);rw[List.cons_append,List.cons_append,pairs,this,pairs];rfl
 | [],_::_,h=>by simp at h
 | _::_,[],h=>by simp at h
theorem uf {name:ByteArray}: ∀{cols:List Col} {row:List Val} {k:Nat},cols.length=row.length->
  (gV name k cols= -1->nD name (pairs cols row)=none)/\(∀j:Nat,gV name k cols=((k+j:Nat):Int)->nD name (pairs cols row)=some (.agg (row.getD j iG).cells.toArray))
 | [],[],k,_=>⟨λ_=>rfl,λj h=>by rw[gV]at h;omega⟩
 |c::cols,v::row,k,h=>by
  have e:=uf (name:=name) (cols:=cols) (row:=row) (k:=k+1) (by simpa using h);have d:=lD name cols (k+1);rw[pairs,gV];by_cases a:(c.name.toList==name.toList)=true
  ·rw[if_pos a];refine⟨λq=>by omega,λj q=>?_⟩;obtain rfl:j=0:=by omega
   have b:(name.toList==c.name.toList)=true:=by rw[BEq.comm];exact a
   simp[nD,b]
  ·rw[if_neg a];have b:(name.toList==c.name.toList)=false:=by
    rw[BEq.comm];simpa using a
   refine⟨λq=>?_,λj q=>?_⟩
   ·have:=e.1 q;simpa[nD,b] using this
   ·have f:0<j:=by
     rcases d with d|d
     ·omega
     ·omega
    obtain⟨j,rfl⟩: ∃i,j=i+1:=⟨j-1,by omega⟩;have:=e.2 j (by rw[q];congr 1;omega);simpa[nD,b] using this
 | [],_::_,_,h=>by simp at h
 | _::_,[],_,h=>by simp at h
theorem tV (name:ByteArray): ∀(l:List Col) (i k:Nat),gV name i (l.take k)= -1\/(gV name i l<i+k)
 | [],i,k=>by simp[gV]
 |c::l,i,0=>by simp[gV]
 |c::l,i,k+1=>by
  rw[List.take_succ_cons,gV,gV]
  split
  ·right;omega
  ·rcases tV name l (i+1) k with h|h
   ·exact .inl h
   ·right;omega
theorem Lg {cols:List Col}{row:List Val}{k:Nat}{c:Col}(a:gu cols=0)(d:cols.length=row.length)(b:cols[k]?=some c):nD c.name (pairs (cols.take k) (row.take k))=none:=by
 refine(uf (k:=0) (by rw[List.length_take,List.length_take,d])).1 ?_;rcases tV c.name cols 0 k with h|h
 ·exact h
 ·exfalso;rw[gu]at a
  split at a
  ·omega
  ·have:=jF a k c b;rw[kP]at this
   (repeat' split at this)<;>first|omega|(rename_i q;exact q (by rw[index];omega))
theorem Gq {cols:List Col}{row:List Val}{k:Nat}{c:Col}{v:Val}(b:cols.length=row.length)(a:cols[k]?=some c)(d:row[k]?=some v):pairs (cols.take (k+1)) (row.take (k+1))=pairs (cols.take k) (row.take k)++[(c.name,.agg v.cells.toArray)]:=by
 rw[List.take_add_one,List.take_add_one,a,d];exact zH (by rw[List.length_take,List.length_take,b])
theorem Lf {cols:List Col}{row:List Val}{name:ByteArray}(a:cols.length=row.length)(hi:0<=index cols name):nD name (pairs cols row)=some (.agg (row.getD (index cols name).toNat iG).cells.toArray):=by
 refine(uf (k:=0) a).2 _ ?_;rw[index]at*;omega
theorem EJ {o:List Zone}{x:Node}{m:Nat}{xs:List Val}(n:shaped x=true)(h:x.op≠1)(f:x.op≠21)(k:qR x.op=false)(g:arity x.op x.arity=(m:Int))(i:xs.length=m)(j:(xs.any λv=>v.kind==0)=true):vG o x xs=iG:=by
 have l:=Cg n h f;obtain⟨c,v,nm,p⟩:=x;simp only at g l k h f;simp[qR]at k;by_cases q:c=2\/c=3\/c=19\/c=20
 ·have e:m=1:=by rw[arity,if_neg (by omega),if_pos (by omega)]at g;omega
  subst e;obtain⟨a,rfl⟩:=xQ i;have d:a.kind=0:=by simpa using j
  simp only[vG];rw[JI,if_neg (by omega),if_pos d]
 ·have e:m=2:=by rw[arity,if_neg (by omega),if_neg (by omega),if_neg (by omega),if_neg f,if_pos (by omega)]at g;omega
  subst e;obtain⟨a,b,rfl⟩:=Ld i;have d:a.kind=0\/b.kind=0:=by simpa using j
  simp only[vG];rw[if_neg (by omega),if_neg (by omega),if_neg (by omega),if_pos d]
theorem mr {cols:List Col}{row:List Val}{a:List Zone}{x:Node}{xs:List Val}(b:x.op≠1):lT cols row a x xs=vG a x xs:=by rw[lT,if_neg b]
theorem xZ {a:List Zone}{x:Node}{xs:List Val}(h:qR x.op=true):Mt a x xs=vG a x xs:=by rw[Mt,if_pos h]
theorem yE {a:List Zone}{x:Node}{xs:List Val}(h:qR x.op=false):Mt a x xs=iG:=by rw[Mt,h];rfl
end Go.Proofs.YtopjjlmfilgngaaGreatDoor
