/-
  check.checkCond. check.checkRows. Plain law: soundness of a node and of a whole expression; equality of values. No program is in sight. Plain law: the loop that evaluates an expression, step by step. No program is in sight.
-/
import Derived.Test.YthnelebakkggjaaGreatDoorTypG
namespace Go.Proofs.YthnelebakkggjaaGreatDoor
set_option maxHeartbeats 4000000
set_option maxRecDepth 100000
open Go.RowKit
set_option linter.unusedSimpArgs false
set_option linter.unusedVariables false
def eP (x:Chk)(A:Option Addr)(n c:Nat)(A':Option Addr)(n' c':Nat)(A'':Option Addr)(n'' c'':Nat):List Value:=[.string x.name,.string x.table,.int .i64 x.kind,.slice A n c,.string x.other,.slice A' n' c',.int .i64 x.low,.int .i64 x.high,.slice A'' n'' c'',.int .i64 x.ln,.int .i64 x.ld,.int .i64 x.mn,.int .i64 x.md,.int .i64 x.policy]
theorem zS (w:World)(x:Chk)(A:Option Addr)(n c:Nat)(A':Option Addr)(n' c':Nat)(A'':Option Addr)(n'' c'':Nat)(h:In w A'' n'' c'' x.cond)(hw:Words w)(k:Option Addr)(t c1:Nat)(cols:List Col)(g:In w k t c1 cols)(l:Option Addr)(u c2:Nat)(zs:List Zone)(i:In w l u c2 zs):
  Calls Tryz.prog 94 #[.agg (eP x A n c A' n' c' A'' n'' c'').toArray,.slice k t c1,.slice l u c2] w λe w'=>e=.returned (.int .i64 (ku x cols zs))/\Below w.heap.size w w':=by
 have a:=Hm (show ku x cols zs=if (ig x.cond cols zs).1≠0 then(ig x.cond cols zs).1 else if (ig x.cond cols zs).2.kind≠1/\(ig x.cond cols zs).2.kind≠0 then 7 else 0 from rfl);have f:=Hm λW h hw g i=>D8 W A'' n'' c'' x.cond h hw k t c1 cols g l u c2 zs i;obtain⟨R,r⟩: ∃R,ku x cols zs=R:=⟨_,rfl⟩;obtain⟨T,s⟩: ∃T,ig x.cond cols zs=T:=⟨_,rfl⟩;rw[r,s]at a;rw[s]at f;rw[r];clear r s;obtain⟨v,j,D⟩:=T;simp only at a f;simp only[eP];go_enter Tryz.func94,Tryz.ntmps94;go_wp2_with fail;refine(f.o _ (by exact h.b eB) (by exact hw.b eB) (by exact g.b eB) (by exact i.b eB)).mono ?_;rintro e E ⟨rfl,y⟩;have d:=Hm (eu eB y);clear y h hw g i f;by_cases m:v=0
 ·subst m;by_cases p:j=1
  ·subst p;obtain rfl:R=0:=by rw[a.o];simp
   go_wp2;all_goals(try(exfalso;go_light;simp_all;done));go_ret;exact⟨rfl,d.o⟩
  ·by_cases q:j=0
   ·subst q;obtain rfl:R=0:=by rw[a.o];simp
    go_wp2;all_goals(try(exfalso;go_light;simp_all;done));go_ret;exact⟨rfl,d.o⟩
   ·have B:(j != 1)=true:=by simpa using p
    have C:(j != 0)=true:=by simpa using q
    obtain rfl:R=7:=by rw[a.o];simp[p,q]
    go_wp2;all_goals(try(exfalso;go_light;simp_all;done));go_ret;exact⟨rfl,d.o⟩
 ·have z:(v != 0)=true:=by simpa using m
  obtain rfl:R=v:=by rw[a.o];simp[m]
  go_wp2;all_goals(try(exfalso;go_light;simp_all;done));go_ret;exact⟨rfl,d.o⟩
def ji (cols:List Col)(rows:List Ent):Int:=if fA rows≠0 then fA rows else if jE rows=false then 8 else eH (λ_ x=>fB cols x.row) 0 rows
theorem uH (w:World)(nm:ByteArray)(A:Option Addr)(n c:Nat)(cols:List Col)(P:In w A n c cols)(A':Option Addr)(n' c':Nat)(j:Option Addr)(f c2:Nat)(rows:List Ent)(J:In w j f c2 rows):
  Calls Tryz.prog 56 #[.agg #[.string nm,.slice A n c,.slice A' n' c',.slice j f c2]] w λe w'=>e=.returned (.int .i64 (ji cols rows))/\Below w.heap.size w w':=by
 have l:=Hm (show ji cols rows=if fA rows≠0 then fA rows else if jE rows=false then 8 else eH (λ_ x=>fB cols x.row) 0 rows from rfl);obtain⟨R,F⟩: ∃R,ji cols rows=R:=⟨_,rfl⟩;rw[F]at l;rw[F];clear F;have af:=J.le;go_enter Tryz.func56,Tryz.ntmps56;have d:=Hm P;clear P;have a:=Hm J;clear J;go_wp2_with fail;obtain⟨W1,H⟩: ∃W,W=w.alloc (.cells #[.string nm,.slice A n c,.slice A' n' c',.slice j f c2] 32):=⟨_,rfl⟩;obtain⟨r,ae,h,g1,g2,g3⟩:=lM H rfl;rw[<-H];clear H;have d:=Hm (d.o.b r);have a:=Hm (a.o.b r);have ab:=Hm r;clear r;have g:=lt_of_cell h;obtain⟨B,E⟩: ∃B,fA rows=B:=⟨_,rfl⟩;have U:=Hm E;obtain⟨T,G⟩: ∃T,jE rows=T:=⟨_,rfl⟩;have aa:=Hm G;rw[E,G]at l;clear E G;refine(xW _ j f c2 rows a.o).mono ?_;rintro e w2 ⟨rfl,m⟩;have d:=Hm (d.o.b m);have a:=Hm (a.o.b m);obtain⟨h,g1,g2,g3,g⟩:=iD m g h g1 g2 g3;have M:=Hm (eu ab.o m);clear m;rw[U.o];by_cases D:B=0
 ·subst D;go_wp2_with fail;refine(Dc _ j f c2 rows a.o).mono ?_;rintro e w4 ⟨rfl,p⟩;have d:=Hm (d.o.b p);have a:=Hm (a.o.b p);obtain⟨h,g1,g2,g3,g⟩:=iD p g h g1 g2 g3;have z:=Hm (eu M.o p);clear p;rw[aa.o];cases T
  ·obtain rfl:R=8:=by rw[l.o];simp
   go_wp2;all_goals(try(exfalso;go_light;simp_all;done));go_ret;exact⟨rfl,z.o⟩
  ·have K:Hl (R=eH (λ_ x=>fB cols x.row) 0 rows):=Hm (by rw[l.o];simp);obtain⟨N,rfl⟩: ∃W,W=w4:=⟨_,rfl⟩;go_wp2;go_loopw [20] (λi wr=> ∃k:Nat,k<=f/\i=.int .i64 k/\eH (λ_ x=>fB cols x.row) 0 rows=eH (λ_ x=>fB cols x.row) k (rows.drop k)/\Below N.heap.size N wr) (λi _=>f-(RowKit.intOf i).toNat)
   case atStart=>exact⟨0,Nat.zero_le _,rfl,rfl,IJ⟩
   case round=>
    obtain⟨k,hk,rfl,Q,hb⟩:=hrel;have y:=Hm Q;clear Q;have d:=Hm (d.o.b hb);have a:=Hm (a.o.b hb);obtain⟨h,g1,g2,g3,g⟩:=iD hb g h g1 g2 g3;have C:=Hm hb;clear hb;by_cases ad:k<f
    ·obtain⟨b,off,x,rfl,ag,L,v,u,t,e0,e1,O,e3⟩:=a.o.ent ad;have G1:=Hm g1;have ac:(wr.alloc (.cells #[.slice v u t,.int .i64 x.count] 55)).cell? ⟨w.heap.size,1,none⟩=some (.slice A n c):=eG eB g g1;have q:Below wr.heap.size wr (wr.alloc (.cells #[.slice v u t,.int .i64 x.count] 55)):=eB;have Y:=Hm (O.b q);have X:=Hm (d.o.b q);clear O;go_wp2_with fail;refine(vB _ A v n u c t cols x.row (by exact X.o) (by exact Y.o)).mono ?_;rintro e w9 ⟨rfl,I⟩;have S:=Hm (eu C.o (eu q I));have V:=Hm (eu (eu z.o C.o) (eu q I));clear q I ac;by_cases s:fB cols x.row=0
     ·rw[s];have Z:Hl (eH (λ_ x=>fB cols x.row) 0 rows=eH (λ_ x=>fB cols x.row) (k+1) (rows.drop (k+1))):=Hm (by rw[y.o,L.o];exact gG s);go_wp2;go_roundw
      case rel=>exact⟨k+1,Ho,by go_num,Z.o,S.o⟩
      case measure=>simp[RowKit.intOf];omega
     ·have ah:(fB cols x.row != 0)=true:=by simpa using s
      obtain rfl:R=fB cols x.row:=by rw[K.o,y.o,L.o];exact fI rfl s
      go_wp2;all_goals(try(exfalso;go_light;simp_all;done));go_ret;exact⟨rfl,V.o⟩
    ·obtain rfl:R=0:=by rw[K.o,y.o,fG a.o.len Ho,eH]
     go_wp2;all_goals(try(exfalso;go_light;simp_all;done));go_ret;exact⟨rfl,(eu z.o C.o)⟩
 ·have q0:(B != 0)=true:=by simpa using D
  obtain rfl:R=B:=by rw[l.o];simp[D]
  go_wp2;all_goals(try(exfalso;go_light;simp_all;done));go_ret;exact⟨rfl,M.o⟩
theorem je {α:Type}{f:Nat->α->Int}: ∀{l:List α} {k:Nat},eH f k l=0-> ∀i x,l[i]?=some x->f (k+i) x=0
 | [],_,_,i,x,h=>by simp at h
 |y::l,k,h,i,x,hx=>by
  rw[eH]at h
  split at h
  ·contradiction
  ·rename_i a;cases i with
   |zero=>simp at hx;subst hx;simpa using a
   |succ i=>
    have:=je h i x (by simpa using hx);rw[show k+(i+1)=k+1+i by omega];exact this
theorem IC {cols:List Col}(h:fq cols=0){i:Nat}{c:Col}(a:cols[i]?=some c):1<=c.kind/\c.kind<=4:=by
 rw[fq]at h
 split at h
 ·omega
 ·have:=je h i c a;rw[kM]at this
  split at this
  ·omega
  ·split at this
   ·omega
   ·omega
theorem zy {cols:List Col}{row:List Val}(h:fB cols row=0){i:Nat}{v:Val}(a:row[i]?=some v):iq (cols.getD i default) v=0:=by
 rw[fB]at h
 split at h
 ·omega
 ·have:=je h i v a;simpa using this
theorem yg {cols:List Col}{row:List Val}(h:fB cols row=0):row.length=cols.length:=by
 rw[fB]at h
 split at h
 ·omega
 ·rename_i q;omega
theorem sQ {es:List Node}{cols:List Col}{zs:List Zone}(h:gV es cols zs=0):gY es=0/\fq cols=0/\zP zs=0:=by
 rw[gV]at h
 split at h
 ·omega
 ·split at h
  ·omega
  ·omega
theorem ED {cols:List Col}{name:ByteArray}(h:¬index cols name<0): ∃(i:Nat) (c:Col),index cols name=(i:Int)/\cols[i]?=some c/\i<cols.length:=by
 rcases ll name cols 0 with a|⟨b,d⟩
 ·exact absurd (by rw[index,a];omega) h
 ·have hi:(index cols name).toNat<cols.length:=by rw[index];omega
  exact⟨(index cols name).toNat,cols[(index cols name).toNat],by rw[index]at*;omega,List.getElem?_eq_getElem hi,hi⟩
theorem x8 {α:Type}{l:List α}{i:Nat}{x d:α}(h:l[i]?=some x):l.getD i d=x:=by rw[List.getD,h];rfl
theorem xC {α:Type}{l:List α}(h:l.length=1): ∃x,l=[x]:=by
 match l,h with
 | [x],_=>exact⟨x,rfl⟩
theorem Ji {α:Type}{l:List α}(h:l.length=2): ∃x y,l=[x,y]:=by
 match l,h with
 | [x,y],_=>exact⟨x,y,rfl⟩
theorem Lv {α:Type}{l:List α}(h:l.length=3): ∃x y z,l=[x,y,z]:=by
 match l,h with
 | [x,y,z],_=>exact⟨x,y,z,rfl⟩
theorem Ce {n:Node}(h:shaped n=true)(a:n.op=0):valid n.value=true:=by
 rw[shaped,if_pos a]at h;simp at h;exact h.1.1
theorem Gq {cols:List Col}{row:List Val}(k:fq cols=0)(g:fB cols row=0){i:Nat}{c:Col}(hi:cols[i]?=some c):lJ ⟨c.kind,c.nullable⟩/\Has ⟨c.kind,c.nullable⟩ (row.getD i fP):=by
 have o:=IC k hi;have l:=(List.getElem?_eq_some_iff.1 hi).1;have m:i<row.length:=by rw[yg g];exact l
 have b:=List.getElem?_eq_getElem m;have a:=zy g b;rw[x8 hi]at a;rw[x8 b];generalize row[i]=v at a;refine⟨⟨by simp only;omega,by simp only;omega,λq=>by simp only at q;omega⟩,?_⟩;rw[iq]at a
 split at a
 ·omega
 ·rename_i j
  split at a
  ·omega
  ·rename_i e;have b:valid v=true:=by cases h:valid v;exact absurd h j;rfl
   refine⟨b,?_⟩;simp only;by_cases d:v.kind=0
   ·refine .inr ⟨d,?_⟩;cases n:c.nullable
    ·exact absurd (.inl ⟨d,n⟩) e
    ·rfl
   ·refine .inl ?_;by_cases f:v.kind=c.kind
    ·exact f
    ·exact absurd (.inr ⟨d,f⟩) e
theorem zg {cols:List Col}{row:List Val}{zs:List Zone}{n:Node}{ks:List Kd}{vs:List Val}{k:Kd}{m:Nat}(C:fq cols=0)(D:fB cols row=0)(A:shaped n=true)(p:arity n.op n.arity=(m:Int))(e:ks.length=m)(d:pu ks vs)(h:fo cols zs n ks=(0,k)):lJ k/\Has k (lG cols row zs n vs):=by
 have o:=d.len;rw[fo]at h;by_cases g:n.op=1
 ·rw[if_pos g]at h
  split at h
  ·injection h with h _;omega
  ·rename_i hi;obtain⟨i,c,r,s,E⟩:=ED hi;injection h with _ h;rw[r,Int.toNat_natCast,x8 s]at h;subst h;rw[lG,if_pos g,r,Int.toNat_natCast];exact Gq C D s
 rw[if_neg g]at h;by_cases j:n.op=21
 ·rw[if_pos j]at h;injection h with h _;omega
 rw[if_neg j]at h
 split at h
 ·injection h with h _;omega
 split at h
 ·injection h with h _;omega
 rename_i f;have f:(fJ n ks).2=true:=by cases q:(fJ n ks).2;exact absurd q f;rfl
 injection h with _ h;subst h;rw[lG,if_neg g];rcases pM A g j with t|⟨G,F⟩
 ·have:m=0:=by rw[arity,if_pos (.inl t)]at p;omega
  subst this;obtain rfl:=List.eq_nil_of_length_eq_zero e;obtain rfl:=List.eq_nil_of_length_eq_zero (o.symm.trans e);have B:=Ce A t;have w:=FI B;simp only[fJ,jl];exact⟨⟨w.1,w.2,λq=>by simpa using q⟩,jW B (.inl rfl)⟩
 by_cases l:n.op=2\/n.op=3\/n.op=16\/n.op=19\/n.op=20
 ·have:m=1:=by rw[arity,if_neg Ho,if_pos l]at p;omega
  subst this;obtain⟨x,rfl⟩:=xC e;obtain⟨v,rfl⟩:=xC (o.symm.trans e);exact JJ l d.1.1 d.1.2 f
 by_cases u:n.op=17
 ·have:m=3:=by rw[arity,if_neg Ho,if_neg l,if_pos u]at p;omega
  subst this;obtain⟨x,y,z,rfl⟩:=Lv e;obtain⟨a,b,c,rfl⟩:=Lv (o.symm.trans e);simp only[fJ]at f⊢;rw[Bool.and_eq_true]at f;exact Jd d.2.1.1 d.2.1.2 d.2.2.1.1 d.2.2.1.2 f.1
 ·have:m=2:=by rw[arity,if_neg Ho,if_neg l,if_neg u,if_neg j,if_pos Ho]at p;omega
  subst this;obtain⟨x,y,rfl⟩:=Ji e;obtain⟨a,b,rfl⟩:=Ji (o.symm.trans e);exact Gh Ho d.1.1 d.1.2 d.2.1.1 d.2.1.2 f
theorem wo {cols:List Col}{zs:List Zone}{ks:List Kd}{n:Node}{l:List Node}{r m:Nat}(c:arity n.op n.arity=(m:Int))(b:ks.length=r+m)(h:(fT cols zs ks (n::l)).1=0):
  ∃k,fo cols zs n (ks.drop r)=(0,k)/\fT cols zs ks (n::l)=fT cols zs (ks.take r++[k]) l:=by
 by_cases a:(fo cols zs n (ks.drop r)).1=0
 ·refine⟨(fo cols zs n (ks.drop r)).2,Prod.ext a rfl,jM c b (Prod.ext a rfl)⟩
 ·rw[jK c b rfl a]at h;exact absurd h a
theorem zH {cols:List Col}{row:List Val}{zs:List Zone}{vs:List Val}{n:Node}{l:List Node}{r m:Nat}(b:arity n.op n.arity=(m:Int))(a:vs.length=r+m):
  lH cols row zs vs (n::l)=lH cols row zs (vs.take r++[lG cols row zs n (vs.drop r)]) l:=by
 rw[lH,a,rz b]
theorem yZ {cols:List Col}{row:List Val}{zs:List Zone}(b:fq cols=0)(c:fB cols row=0): ∀(l:List Node) (hs:List Int) (ks:List Kd) (vs:List Val),fZ hs l=0->hs.length=ks.length->pu ks vs->
  (fT cols zs ks l).1=0->lJ (fT cols zs ks l).2/\Has (fT cols zs ks l).2 (lH cols row zs vs l)
 | [],hs,ks,vs,he,hl,hf,_=>by
  have:=pE he rfl;obtain⟨x,rfl⟩:=xC (hl.symm.trans this);obtain⟨v,rfl⟩:=xC (hf.len.symm.trans (hl.symm.trans this));exact hf.1
 |n::l,hs,ks,vs,he,hl,hf,ht=>by
  obtain⟨m,r,h,i,a,_,hd,f,d⟩:=pF he hl;obtain⟨k,e,g⟩:=wo a hd ht;rw[g]at ht⊢;rw[zH a (hf.len.symm.trans hd)];refine yZ b c l h _ _ d (by rw[f,List.length_append,List.length_take,hd];simp) ((hf.take r).push ?_) ht;exact zg b c i a (by rw[List.length_drop];omega) (hf.drop r) e
theorem EH {cols:List Col}{row:List Val}{zs:List Zone}{es:List Node}(d:fB cols row=0)(a:(ig es cols zs).1=0):lJ (ig es cols zs).2/\Has (ig es cols zs).2 (lH cols row zs [] es):=by
 rw[ig]at a⊢
 split at a
 ·rename_i h;exact absurd a h
 ·rename_i h;rw[if_neg h];have h:gV es cols zs=0:=by omega
  obtain⟨b,c,e⟩:=sQ h;exact yZ c d es [] [] [] (nC b).2 rfl trivial a
theorem rJ {a b:ByteArray}(h:a.toList=b.toList):a=b:=by
 rw[ByteArray.toList_eq,ByteArray.toList_eq]at h;obtain⟨⟨a⟩⟩:=a;obtain⟨⟨b⟩⟩:=b;simp at h;rw[h]
theorem qp {a b:Int}:kW a b=0↔a=b:=by rw[kW];(repeat' split)<;>omega
theorem qW: ∀l:List UInt8,Op.bytesLess l l=false
 | []=>rfl
 |x::l=>by simp[Op.bytesLess,qW l]
theorem xn {a b:ByteArray}:kL a b=0↔a.toList=b.toList:=by
 rw[kL]
 split
 ·rename_i h;constructor
  ·intro q;omega
  ·intro q;rw[q,qW]at h;cases h
 ·split
  ·rename_i h;simp[h]
  ·rename_i h;simp[h]
theorem xq {a b:Val}:fV a b=0↔a=b:=by
 obtain⟨k,n,s⟩:=a;obtain⟨i,n',j⟩:=b;rw[fV];simp only;constructor
 ·intro h
  split at h
  ·contradiction
  ·rename_i c
   split at h
   ·contradiction
   ·rename_i d;have e:=qp.1 (Decidable.not_not.1 c);have f:=qp.1 (Decidable.not_not.1 d);have g:=rJ (xn.1 h);rw[e,f,g]
 ·intro h;injection h with c d h3;subst c d h3;rw[if_neg (by simp[qp]),if_neg (by simp[qp])];exact xn.2 rfl
structure Run (cols:List Col) (row:List Val) (zs:List Zone) (es:List Node) (k d:Nat) (hs:List Int) (ks:List Kd) (vs:List Val):Prop where
 ex:fZ hs (es.drop k)=0
 hl:hs.length=d
 vl:vs.length=d
 fit:pu ks vs
 ty:(fT cols zs ks (es.drop k)).1=0
 va:lH cols row zs [] es=lH cols row zs vs (es.drop k)
theorem Run.start {cols:List Col}{row:List Val}{zs:List Zone}{es:List Node}(a:(ig es cols zs).1=0):Run cols row zs es 0 0 [] [] []:=by
 rw[ig]at a
 split at a
 ·rename_i h;exact absurd a h
 ·rename_i h;obtain⟨b,c,d⟩:=sQ (by omega:gV es cols zs=0);exact⟨(nC b).2,rfl,rfl,trivial,a,rfl⟩
structure Step (cols:List Col) (row:List Val) (zs:List Zone) (es:List Node) (k r m:Nat) (x:Node) (vs:List Val):Prop where
 sh:shaped x=true
 ar:arity x.op x.arity=(m:Int)
 m8:m<=8
 n21:x.op≠21
 col:x.op=1->m=0/\0<=index cols x.name/\index cols x.name<cols.length
 val: ∀v∈vs.drop r,valid v=true
 bool:x.op=2->(∀v∈vs.drop r,v.kind≠0)-> ∀v∈vs.drop r,v.kind=1
 new:valid (lG cols row zs x (vs.drop r))=true
theorem Run.step {cols:List Col}{row:List Val}{zs:List Zone}{es:List Node}{k d:Nat}{hs:List Int}{ks:List Kd}{vs:List Val}(A:fq cols=0)(J:fB cols row=0)(h:Run cols row zs es k d hs ks vs){x:Node}(K:es.drop k=x::es.drop (k+1)):
  ∃m r n L,d=r+m/\Step cols row zs es k r m x vs/\Run cols row zs es (k+1) (r+1) n L (vs.take r++[lG cols row zs x (vs.drop r)]):=by
 obtain⟨t,D,y,j,o,g⟩:=h;rw[K]at t o g;obtain⟨m,r,n,w,f,G,hd,E,B⟩:=pF t D;have C:ks.length=r+m:=by rw[j.len,y];exact hd
 obtain⟨kd,e,I⟩:=wo f C o;have hs:=zg A J w f (by rw[List.length_drop];omega) (j.drop r) e;refine⟨m,r,n,ks.take r++[kd],hd,⟨w,f,G,?_,?_,(j.drop r).valid,?_,hs.2.1⟩,⟨B,E,?_,(j.take r).push hs,by rw[<-I];exact o,?_⟩⟩
 ·intro z;rw[fo,if_neg Ho,if_pos z]at e;injection e with e _;omega
 ·intro p;rw[fo,if_pos p]at e
  split at e
  ·injection e with e _;omega
  ·rename_i hi;obtain⟨i,c,M,N,O⟩:=ED hi;refine⟨?_,Ho,Ho⟩;rw[p]at f;simp[arity]at f;omega
 ·intro q H v g;have F:m=1:=by rw[q]at f;simp[arity]at f;omega
  subst F;obtain⟨a,s⟩:=xC (show(ks.drop r).length=1 by rw[List.length_drop];omega);obtain⟨b,hb⟩:=xC (show(vs.drop r).length=1 by rw[List.length_drop];omega);have l:=j.drop r;rw[s,hb]at l;rw[hb]at g;simp at g;subst g;rw[s,fo,if_neg Ho,if_neg Ho,if_neg Ho]at e
  split at e
  ·injection e with e _;omega
  ·rename_i u;simp[fJ,jc,q]at u;refine(q9 l.1.1 l.1.2 u).resolve_right ?_;exact H v (by rw[hb];simp)
 ·rw[List.length_append,List.length_take];simp;omega
 ·rw[g,zH f (by rw[y];exact hd)]
theorem Run.last {cols:List Col}{row:List Val}{zs:List Zone}{es:List Node}{k d:Nat}{hs:List Int}{ks:List Kd}{vs:List Val}(h:Run cols row zs es k d hs ks vs)(c:es.drop k=[]):
  d=1/\ ∃v,vs=[v]/\lH cols row zs [] es=v:=by
 obtain⟨a,g,e,f,i,b⟩:=h;rw[c]at a b;have:=pE a rfl;obtain rfl:d=1:=by omega
 obtain⟨v,rfl⟩:=xC e;exact⟨rfl,v,rfl,by rw[b];rfl⟩
theorem Run.short {cols:List Col}{row:List Val}{zs:List Zone}{es:List Node}(a:(ig es cols zs).1=0):es.length<=256/\fq cols=0:=by
 rw[ig]at a
 split at a
 ·rename_i h;exact absurd a h
 ·rename_i h;obtain⟨b,c,d⟩:=sQ (by omega:gV es cols zs=0);exact⟨(nC b).1,c⟩
end Go.Proofs.YthnelebakkggjaaGreatDoor
