/-
  check.checkCond. check.checkRows. Plain law: soundness of a node and of a whole expression; equality of values. No program is in sight. scalar.special and scalar.apply: with their operands they return opV. (Printed by gen_app.py.) Plain law: the loop that evaluates an expression, step by step. No program is in sight.
-/
import Derived.Test.YtopjjlmfilgngaaGreatDoorTypG
namespace Go.Proofs.YtopjjlmfilgngaaGreatDoor
set_option maxHeartbeats 4000000
set_option maxRecDepth 100000
open Go.RowKit
set_option linter.unusedSimpArgs false
set_option linter.unusedVariables false
def fZ (x:Chk)(A:Option Addr)(n c:Nat)(A':Option Addr)(n' c':Nat)(A'':Option Addr)(n'' c'':Nat):List Value:=[.string x.name,.string x.table,.int .i64 x.kind,.slice A n c,.string x.other,.slice A' n' c',.int .i64 x.low,.int .i64 x.high,.slice A'' n'' c'',.int .i64 x.ln,.int .i64 x.ld,.int .i64 x.mn,.int .i64 x.md,.int .i64 x.policy]
theorem Ai (w:World)(x:Chk)(A:Option Addr)(n c:Nat)(A':Option Addr)(n' c':Nat)(A'':Option Addr)(n'' c'':Nat)(g:In w A'' n'' c'' x.cond)(hw:Words w)(j:Option Addr)(r c1:Nat)(cols:List Col)(f:In w j r c1 cols)(A2:Option Addr)(n2 c2:Nat)(zs:List Zone)(h:In w A2 n2 c2 zs):
  Calls Tryz.prog 146 #[.agg (fZ x A n c A' n' c' A'' n'' c'').toArray,.slice j r c1,.slice A2 n2 c2] w λe w'=>e=.returned (.int .i64 (kC x cols zs))/\Below w.heap.size w w':=by
 have a:=Hm (show kC x cols zs=if (iX x.cond cols zs).1≠0 then(iX x.cond cols zs).1 else if (iX x.cond cols zs).2.kind≠1/\(iX x.cond cols zs).2.kind≠0 then 7 else 0 from rfl);have d:=Hm λW g hw f h=>EY W A'' n'' c'' x.cond g hw j r c1 cols f A2 n2 c2 zs h;obtain⟨R,p⟩: ∃R,kC x cols zs=R:=⟨_,rfl⟩;obtain⟨T,q⟩: ∃T,iX x.cond cols zs=T:=⟨_,rfl⟩;rw[p,q]at a;rw[q]at d;rw[p];clear p q;obtain⟨s,i,z⟩:=T;simp only at a d;simp only[fZ];go_enter Tryz.func146,Tryz.ntmps146;go_wp2_with fail;refine(d.o _ (by exact g.below fI) (by exact hw.below fI) (by exact f.below fI) (by exact h.below fI)).mono ?_;rintro e B ⟨rfl,t⟩;have b:=Hm (fH fI t);clear t g hw f h d;by_cases k:s=0
 ·subst k;by_cases l:i=1
  ·subst l;obtain rfl:R=0:=by rw[a.o];simp
   go_wp2;all_goals(try(exfalso;go_light;simp_all;done));go_ret;exact⟨rfl,b.o⟩
  ·by_cases m:i=0
   ·subst m;obtain rfl:R=0:=by rw[a.o];simp
    go_wp2;all_goals(try(exfalso;go_light;simp_all;done));go_ret;exact⟨rfl,b.o⟩
   ·have v:(i != 1)=true:=by simpa using l
    have y:(i != 0)=true:=by simpa using m
    obtain rfl:R=7:=by rw[a.o];simp[l,m]
    go_wp2;all_goals(try(exfalso;go_light;simp_all;done));go_ret;exact⟨rfl,b.o⟩
 ·have u:(s != 0)=true:=by simpa using k
  obtain rfl:R=s:=by rw[a.o];simp[k]
  go_wp2;all_goals(try(exfalso;go_light;simp_all;done));go_ret;exact⟨rfl,b.o⟩
def iL (cols:List Col)(rows:List Ent):Int:=if gN rows≠0 then gN rows else if jJ rows=false then 8 else fQ (λ_ x=>gF cols x.row) 0 rows
theorem ve (w:World)(nm:ByteArray)(A:Option Addr)(n c:Nat)(cols:List Col)(Q:In w A n c cols)(A':Option Addr)(n' c':Nat)(A2:Option Addr)(n2 c2:Nat)(rows:List Ent)(K:In w A2 n2 c2 rows):
  Calls Tryz.prog 114 #[.agg #[.string nm,.slice A n c,.slice A' n' c',.slice A2 n2 c2]] w λe w'=>e=.returned (.int .i64 (iL cols rows))/\Below w.heap.size w w':=by
 have m:=Hm (show iL cols rows=if gN rows≠0 then gN rows else if jJ rows=false then 8 else fQ (λ_ x=>gF cols x.row) 0 rows from rfl);obtain⟨R,G⟩: ∃R,iL cols rows=R:=⟨_,rfl⟩;rw[G]at m;rw[G];clear G;have af:=K.le;go_enter Tryz.func114,Tryz.ntmps114;have d:=Hm Q;clear Q;have a:=Hm K;clear K;go_wp2_with fail;obtain⟨W1,I⟩: ∃W,W=w.alloc (.cells #[.string nm,.slice A n c,.slice A' n' c',.slice A2 n2 c2] 29):=⟨_,rfl⟩;obtain⟨s,ae,h,f,j,l⟩:=jV I rfl;rw[<-I];clear I;have d:=Hm (d.o.below s);have a:=Hm (a.o.below s);have ab:=Hm s;clear s;have g:=lt_of_cell h;obtain⟨B,F⟩: ∃B,gN rows=B:=⟨_,rfl⟩;have V:=Hm F;obtain⟨T,H⟩: ∃T,jJ rows=T:=⟨_,rfl⟩;have aa:=Hm H;rw[F,H]at m;clear F H;refine(Cs _ A2 n2 c2 rows a.o).mono ?_;rintro e w2 ⟨rfl,p⟩;have d:=Hm (d.o.below p);have a:=Hm (a.o.below p);obtain⟨h,f,j,l,g⟩:=xI p g h f j l;have N:=Hm (fH ab.o p);clear p;rw[V.o];by_cases E:B=0
 ·subst E;go_wp2_with fail;refine(xP _ A2 n2 c2 rows a.o).mono ?_;rintro e w4 ⟨rfl,q⟩;have d:=Hm (d.o.below q);have a:=Hm (a.o.below q);obtain⟨h,f,j,l,g⟩:=xI q g h f j l;have C:=Hm (fH N.o q);clear q;rw[aa.o];cases T
  ·obtain rfl:R=8:=by rw[m.o];simp
   go_wp2;all_goals(try(exfalso;go_light;simp_all;done));go_ret;exact⟨rfl,C.o⟩
  ·have L:Hl (R=fQ (λ_ x=>gF cols x.row) 0 rows):=Hm (by rw[m.o];simp);obtain⟨O,rfl⟩: ∃W,W=w4:=⟨_,rfl⟩;go_wp2;go_loopw [20] (λi wr=> ∃k:Nat,k<=n2/\i=.int .i64 k/\fQ (λ_ x=>gF cols x.row) 0 rows=fQ (λ_ x=>gF cols x.row) k (rows.drop k)/\Below O.heap.size O wr) (λi _=>n2-(RowKit.intOf i).toNat)
   case atStart=>exact⟨0,Nat.zero_le _,rfl,rfl,Below.refl _ _⟩
   case round=>
    obtain⟨k,hk,rfl,S,hb⟩:=hrel;have z:=Hm S;clear S;have d:=Hm (d.o.below hb);have a:=Hm (a.o.below hb);obtain⟨h,f,j,l,g⟩:=xI hb g h f j l;have D:=Hm hb;clear hb;by_cases ad:k<n2
    ·obtain⟨b,off,x,rfl,ag,M,y,v,u,e0,e1,P,e3⟩:=a.o.ent ad;have G1:=Hm f;have ac:(wr.alloc (.cells #[.slice y v u,.int .i64 x.count] 50)).cell? ⟨w.heap.size,1,none⟩=some (.slice A n c):=fO fI g f;have r:Below wr.heap.size wr (wr.alloc (.cells #[.slice y v u,.int .i64 x.count] 50)):=fI;have Z:=Hm (P.below r);have Y:=Hm (d.o.below r);clear P;go_wp2_with fail;refine(vU _ A y n v c u cols x.row (by exact Y.o) (by exact Z.o)).mono ?_;rintro e w9 ⟨rfl,J⟩;have U:=Hm (fH D.o (fH r J));have X:=Hm (fH (fH C.o D.o) (fH r J));clear r J ac;by_cases t:gF cols x.row=0
     ·rw[t];have HN:Hl (fQ (λ_ x=>gF cols x.row) 0 rows=fQ (λ_ x=>gF cols x.row) (k+1) (rows.drop (k+1))):=Hm (by rw[z.o,M.o];exact ig t);go_wp2;go_roundw
      case rel=>exact⟨k+1,by omega,by go_num,HN.o,U.o⟩
      case measure=>simp[RowKit.intOf];omega
     ·have ah:(gF cols x.row != 0)=true:=by simpa using t
      obtain rfl:R=gF cols x.row:=by rw[L.o,z.o,M.o];exact gL rfl t
      go_wp2;all_goals(try(exfalso;go_light;simp_all;done));go_ret;exact⟨rfl,X.o⟩
    ·obtain rfl:R=0:=by rw[L.o,z.o,gG a.o.len (by omega),fQ]
     go_wp2;all_goals(try(exfalso;go_light;simp_all;done));go_ret;exact⟨rfl,(fH C.o D.o)⟩
 ·have q0:(B != 0)=true:=by simpa using E
  obtain rfl:R=B:=by rw[m.o];simp[E]
  go_wp2;all_goals(try(exfalso;go_light;simp_all;done));go_ret;exact⟨rfl,N.o⟩
theorem jF {α:Type}{f:Nat->α->Int}: ∀{l:List α} {k:Nat},fQ f k l=0-> ∀i x,l[i]?=some x->f (k+i) x=0
 | [],_,_,i,x,h=>by simp at h
 |y::l,k,h,i,x,hx=>by
  rw[fQ]at h
  split at h
  ·contradiction
  ·rename_i a;cases i with
   |zero=>simp at hx;subst hx;simpa using a
   |succ i=>
    have:=jF h i x (by simpa using hx);rw[show k+(i+1)=k+1+i by omega];exact this
theorem Km {cols:List Col}(h:gu cols=0){i:Nat}{c:Col}(a:cols[i]?=some c):1<=c.kind/\c.kind<=4:=by
 rw[gu]at h
 split at h
 ·omega
 ·have:=jF h i c a;rw[kP]at this
  split at this
  ·omega
  ·split at this
   ·omega
   ·omega
theorem zO {cols:List Col}{row:List Val}(h:gF cols row=0){i:Nat}{v:Val}(a:row[i]?=some v):ja (cols.getD i default) v=0:=by
 rw[gF]at h
 split at h
 ·omega
 ·have:=jF h i v a;simpa using this
theorem yD {cols:List Col}{row:List Val}(h:gF cols row=0):row.length=cols.length:=by
 rw[gF]at h
 split at h
 ·omega
 ·rename_i q;omega
theorem tK {es:List Node}{cols:List Col}{zs:List Zone}(h:iK es cols zs=0):iN es=0/\gu cols=0/\Ag zs=0:=by
 rw[iK]at h
 split at h
 ·omega
 ·split at h
  ·omega
  ·omega
theorem Fz {cols:List Col}{name:ByteArray}(h:¬index cols name<0): ∃(i:Nat) (c:Col),index cols name=(i:Int)/\cols[i]?=some c/\i<cols.length:=by
 rcases lD name cols 0 with a|⟨b,d⟩
 ·exact absurd (by rw[index,a];omega) h
 ·have hi:(index cols name).toNat<cols.length:=by rw[index];omega
  exact⟨(index cols name).toNat,cols[(index cols name).toNat],by rw[index]at*;omega,List.getElem?_eq_getElem hi,hi⟩
theorem yz {α:Type}{l:List α}{i:Nat}{x d:α}(h:l[i]?=some x):l.getD i d=x:=by rw[List.getD,h];rfl
theorem xQ {α:Type}{l:List α}(h:l.length=1): ∃x,l=[x]:=by
 match l,h with
 | [x],_=>exact⟨x,rfl⟩
theorem Ld {α:Type}{l:List α}(h:l.length=2): ∃x y,l=[x,y]:=by
 match l,h with
 | [x,y],_=>exact⟨x,y,rfl⟩
theorem NZ {α:Type}{l:List α}(h:l.length=3): ∃x y z,l=[x,y,z]:=by
 match l,h with
 | [x,y,z],_=>exact⟨x,y,z,rfl⟩
theorem Dp {n:Node}(h:shaped n=true)(a:n.op=0):valid n.value=true:=by
 rw[shaped,if_pos a]at h;simp at h;exact h.1.1
theorem IC {cols:List Col}{row:List Val}(k:gu cols=0)(g:gF cols row=0){i:Nat}{c:Col}(hi:cols[i]?=some c):lW ⟨c.kind,c.nullable⟩/\Has ⟨c.kind,c.nullable⟩ (row.getD i iG):=by
 have o:=Km k hi;have l:=(List.getElem?_eq_some_iff.1 hi).1;have m:i<row.length:=by rw[yD g];exact l
 have b:=List.getElem?_eq_getElem m;have a:=zO g b;rw[yz hi]at a;rw[yz b];generalize row[i]=v at a;refine⟨⟨by simp only;omega,by simp only;omega,λq=>by simp only at q;omega⟩,?_⟩;rw[ja]at a
 split at a
 ·omega
 ·rename_i j
  split at a
  ·omega
  ·rename_i e;have b:valid v=true:=by cases h:valid v;exact absurd h j;rfl
   refine⟨b,?_⟩;simp only;by_cases d:v.kind=0
   ·refine .inr ⟨d,?_⟩;cases n:c.nullable
    ·exact absurd (.inl ⟨d,n⟩) e
    ·rfl
   ·refine .inl ?_;by_cases f:v.kind=c.kind
    ·exact f
    ·exact absurd (.inr ⟨d,f⟩) e
theorem zz {cols:List Col}{row:List Val}{zs:List Zone}{n:Node}{ks:List Kd}{vs:List Val}{k:Kd}{m:Nat}(C:gu cols=0)(D:gF cols row=0)(A:shaped n=true)(p:arity n.op n.arity=(m:Int))(e:ks.length=m)(d:pz ks vs)(h:iA cols zs n ks=(0,k)):lW k/\Has k (lT cols row zs n vs):=by
 have o:=d.len;rw[iA]at h;by_cases g:n.op=1
 ·rw[if_pos g]at h
  split at h
  ·injection h with h _;omega
  ·rename_i hi;obtain⟨i,c,r,s,E⟩:=Fz hi;injection h with _ h;rw[r,Int.toNat_natCast,yz s]at h;subst h;rw[lT,if_pos g,r,Int.toNat_natCast];exact IC C D s
 rw[if_neg g]at h;by_cases j:n.op=21
 ·rw[if_pos j]at h;injection h with h _;omega
 rw[if_neg j]at h
 split at h
 ·injection h with h _;omega
 split at h
 ·injection h with h _;omega
 rename_i f;have f:(jc n ks).2=true:=by cases q:(jc n ks).2;exact absurd q f;rfl
 injection h with _ h;subst h;rw[lT,if_neg g];rcases Cg A g j with t|⟨G,F⟩
 ·have:m=0:=by rw[arity,if_pos (.inl t)]at p;omega
  subst this;obtain rfl:=List.eq_nil_of_length_eq_zero e;obtain rfl:=List.eq_nil_of_length_eq_zero (o.symm.trans e);have B:=Dp A t;have w:=GN B;simp only[jc,vG];exact⟨⟨w.1,w.2,λq=>by simpa using q⟩,ku B (.inl rfl)⟩
 by_cases l:n.op=2\/n.op=3\/n.op=16\/n.op=19\/n.op=20
 ·have:m=1:=by rw[arity,if_neg (by omega),if_pos l]at p;omega
  subst this;obtain⟨x,rfl⟩:=xQ e;obtain⟨v,rfl⟩:=xQ (o.symm.trans e);exact Mj l d.1.1 d.1.2 f
 by_cases u:n.op=17
 ·have:m=3:=by rw[arity,if_neg (by omega),if_neg l,if_pos u]at p;omega
  subst this;obtain⟨x,y,z,rfl⟩:=NZ e;obtain⟨a,b,c,rfl⟩:=NZ (o.symm.trans e);simp only[jc]at f⊢;rw[Bool.and_eq_true]at f;exact K7 d.2.1.1 d.2.1.2 d.2.2.1.1 d.2.2.1.2 f.1
 ·have:m=2:=by rw[arity,if_neg (by omega),if_neg l,if_neg u,if_neg j,if_pos (by omega)]at p;omega
  subst this;obtain⟨x,y,rfl⟩:=Ld e;obtain⟨a,b,rfl⟩:=Ld (o.symm.trans e);exact Im (by omega) d.1.1 d.1.2 d.2.1.1 d.2.1.2 f
theorem wO {cols:List Col}{zs:List Zone}{ks:List Kd}{n:Node}{l:List Node}{r m:Nat}(c:arity n.op n.arity=(m:Int))(b:ks.length=r+m)(h:(gU cols zs ks (n::l)).1=0):
  ∃k,iA cols zs n (ks.drop r)=(0,k)/\gU cols zs ks (n::l)=gU cols zs (ks.take r++[k]) l:=by
 by_cases a:(iA cols zs n (ks.drop r)).1=0
 ·refine⟨(iA cols zs n (ks.drop r)).2,Prod.ext a rfl,j6 c b (Prod.ext a rfl)⟩
 ·rw[jY c b rfl a]at h;exact absurd h a
theorem zW {cols:List Col}{row:List Val}{zs:List Zone}{vs:List Val}{n:Node}{l:List Node}{r m:Nat}(b:arity n.op n.arity=(m:Int))(a:vs.length=r+m):
  lU cols row zs vs (n::l)=lU cols row zs (vs.take r++[lT cols row zs n (vs.drop r)]) l:=by
 rw[lU,a,rG b]
theorem zt {cols:List Col}{row:List Val}{zs:List Zone}(b:gu cols=0)(c:gF cols row=0): ∀(l:List Node) (hs:List Int) (ks:List Kd) (vs:List Val),gX hs l=0->hs.length=ks.length->pz ks vs->
  (gU cols zs ks l).1=0->lW (gU cols zs ks l).2/\Has (gU cols zs ks l).2 (lU cols row zs vs l)
 | [],hs,ks,vs,he,hl,hf,_=>by
  have:=pE he rfl;obtain⟨x,rfl⟩:=xQ (hl.symm.trans this);obtain⟨v,rfl⟩:=xQ (hf.len.symm.trans (hl.symm.trans this));exact hf.1
 |n::l,hs,ks,vs,he,hl,hf,ht=>by
  obtain⟨m,r,h,i,a,_,hd,f,d⟩:=pF he hl;obtain⟨k,e,g⟩:=wO a hd ht;rw[g]at ht⊢;rw[zW a (hf.len.symm.trans hd)];refine zt b c l h _ _ d (by rw[f,List.length_append,List.length_take,hd];simp) ((hf.take r).push ?_) ht;exact zz b c i a (by rw[List.length_drop];omega) (hf.drop r) e
theorem FL {cols:List Col}{row:List Val}{zs:List Zone}{es:List Node}(d:gF cols row=0)(a:(iX es cols zs).1=0):lW (iX es cols zs).2/\Has (iX es cols zs).2 (lU cols row zs [] es):=by
 rw[iX]at a⊢
 split at a
 ·rename_i h;exact absurd a h
 ·rename_i h;rw[if_neg h];have h:iK es cols zs=0:=by omega
  obtain⟨b,c,e⟩:=tK h;exact zt c d es [] [] [] (nL b).2 rfl trivial a
section
variable {P:Program}
theorem gJ {b:Func}{p q:Tmp}{ty:TypeId}(h:b.results= #[.cell p ty,.tmp q])(a:Array Value)(w:World)(g:Nat)(cs:List Value)(d:TypeDesc)(u:Value)(c:a.getD p undef=.pointer (some ⟨g,0,none⟩))(l:a.getD q undef=u)(i: ∀j v,cs[j]?=some v->w.cell? ⟨g,j,none⟩=some v)(n:P.underlying ty=some d)(hd:(match d with| .struct _| .array _ _=>true| _=>false)=true)(hi:(P.info? ty).map (·.size)=some cs.length):
  (results b a).run P w=.ok (.tuple #[.agg cs.toArray,u]) w:=by
 have f:=iM (P:=P) (fn:={b with results:= #[.cell p ty]}) (p:=p) (ty:=ty) rfl a w g cs d c i n hd hi;have k:(loadVar ty ⟨g,0,none⟩).run P w=.ok (.agg cs.toArray) w:=by
  have e:a[p]?.getD undef=.pointer (some ⟨g,0,none⟩):=by simpa using c
  simp only[results]at f;simpa[e,asAddr,Sem.run_bind,Result.andThen] using f
 have e:a[p]?.getD undef=.pointer (some ⟨g,0,none⟩):=by simpa using c
 have m:a[q]?.getD undef=u:=by simpa using l
 simp[results,h,e,m,asAddr,k]
end
theorem pU {w:World}{b off n c k:Nat}{xs:List Val}(h:In w (some ⟨b,off,none⟩) n c xs)(g:k<n){x:Val}(j:xs[k]?=some x):
  b<w.heap.size/\V3 w b (off+k*3) x/\x.ok:=by
 obtain⟨l,m,y,e,hb,a,d,f1,f,i⟩:=h.val g;injection e with e;injection e with e1 e2;subst e1 e2;have:=(iR a.o).1;rw[j]at this;injection this with this;subst this;exact⟨hb,⟨d,f1,f⟩,i⟩
theorem Zr.drewN {w:World}{g:Nat}(h:Zr w g)(n:Nat):Zr (w.drewN n) g:=⟨h.c0,h.c1,h.c2,h.f0,h.f1,h.f2,h.lt⟩
theorem Py (a kd c b:Int)(st nm:ByteArray)(d:(a==0)=false)(f:(a==14)=false)(g:(a==15)=false)(h:(a==16)=false)(i:(a==17)=false)(j:(a==18)=false)(w:World)(v:Value):
  Calls Tryz.prog 189 #[.agg #[.int .i64 a,.int .i64 kd,.int .i64 c,.string st,.string nm,.int .i64 b],v] w λe w'=>e=.returned (.tuple #[.agg iG.cells.toArray,.bool false])/\Below w.heap.size w w':=by
 go_enter Tryz.func189,Tryz.ntmps189;go_wp2;refine bodyPost_ret (v:=.tuple #[.agg iG.cells.toArray,.bool false]) (by simp[results,Tryz.results189,go_sem,Val.cells,iG]) rfl ⟨rfl,by first|exact below_alloc2|exact gK below_alloc2 (by omega) _ _ _⟩
structure Run (cols:List Col) (row:List Val) (zs:List Zone) (es:List Node) (k d:Nat) (hs:List Int) (ks:List Kd) (vs:List Val):Prop where
 ex:gX hs (es.drop k)=0
 hl:hs.length=d
 vl:vs.length=d
 fit:pz ks vs
 ty:(gU cols zs ks (es.drop k)).1=0
 va:lU cols row zs [] es=lU cols row zs vs (es.drop k)
theorem Run.start {cols:List Col}{row:List Val}{zs:List Zone}{es:List Node}(a:(iX es cols zs).1=0):Run cols row zs es 0 0 [] [] []:=by
 rw[iX]at a
 split at a
 ·rename_i h;exact absurd a h
 ·rename_i h;obtain⟨b,c,d⟩:=tK (by omega:iK es cols zs=0);exact⟨(nL b).2,rfl,rfl,trivial,a,rfl⟩
structure Step (cols:List Col) (row:List Val) (zs:List Zone) (es:List Node) (k r m:Nat) (x:Node) (vs:List Val):Prop where
 sh:shaped x=true
 ar:arity x.op x.arity=(m:Int)
 m8:m<=8
 n21:x.op≠21
 col:x.op=1->m=0/\0<=index cols x.name/\index cols x.name<cols.length
 val: ∀v∈vs.drop r,valid v=true
 bool:x.op=2->(∀v∈vs.drop r,v.kind≠0)-> ∀v∈vs.drop r,v.kind=1
 new:valid (lT cols row zs x (vs.drop r))=true
theorem Run.step {cols:List Col}{row:List Val}{zs:List Zone}{es:List Node}{k d:Nat}{hs:List Int}{ks:List Kd}{vs:List Val}(A:gu cols=0)(J:gF cols row=0)(h:Run cols row zs es k d hs ks vs){x:Node}(K:es.drop k=x::es.drop (k+1)):
  ∃m r n L,d=r+m/\Step cols row zs es k r m x vs/\Run cols row zs es (k+1) (r+1) n L (vs.take r++[lT cols row zs x (vs.drop r)]):=by
 obtain⟨t,D,y,j,o,g⟩:=h;rw[K]at t o g;obtain⟨m,r,n,w,f,G,hd,E,B⟩:=pF t D;have C:ks.length=r+m:=by rw[j.len,y];exact hd
 obtain⟨kd,e,I⟩:=wO f C o;have hs:=zz A J w f (by rw[List.length_drop];omega) (j.drop r) e;refine⟨m,r,n,ks.take r++[kd],hd,⟨w,f,G,?_,?_,(j.drop r).valid,?_,hs.2.1⟩,⟨B,E,?_,(j.take r).push hs,by rw[<-I];exact o,?_⟩⟩
 ·intro z;rw[iA,if_neg (by omega),if_pos z]at e;injection e with e _;omega
 ·intro p;rw[iA,if_pos p]at e
  split at e
  ·injection e with e _;omega
  ·rename_i hi;obtain⟨i,c,M,N,O⟩:=Fz hi;refine⟨?_,by omega,by omega⟩;rw[p]at f;simp[arity]at f;omega
 ·intro q H v g;have F:m=1:=by rw[q]at f;simp[arity]at f;omega
  subst F;obtain⟨a,s⟩:=xQ (show(ks.drop r).length=1 by rw[List.length_drop];omega);obtain⟨b,hb⟩:=xQ (show(vs.drop r).length=1 by rw[List.length_drop];omega);have l:=j.drop r;rw[s,hb]at l;rw[hb]at g;simp at g;subst g;rw[s,iA,if_neg (by omega),if_neg (by omega),if_neg (by omega)]at e
  split at e
  ·injection e with e _;omega
  ·rename_i u;simp[jc,sS,q]at u;refine(ry l.1.1 l.1.2 u).resolve_right ?_;exact H v (by rw[hb];simp)
 ·rw[List.length_append,List.length_take];simp;omega
 ·rw[g,zW f (by rw[y];exact hd)]
theorem Run.last {cols:List Col}{row:List Val}{zs:List Zone}{es:List Node}{k d:Nat}{hs:List Int}{ks:List Kd}{vs:List Val}(h:Run cols row zs es k d hs ks vs)(c:es.drop k=[]):
  d=1/\ ∃v,vs=[v]/\lU cols row zs [] es=v:=by
 obtain⟨a,g,e,f,i,b⟩:=h;rw[c]at a b;have:=pE a rfl;obtain rfl:d=1:=by omega
 obtain⟨v,rfl⟩:=xQ e;exact⟨rfl,v,rfl,by rw[b];rfl⟩
theorem Run.short {cols:List Col}{row:List Val}{zs:List Zone}{es:List Node}(a:(iX es cols zs).1=0):es.length<=256/\gu cols=0:=by
 rw[iX]at a
 split at a
 ·rename_i h;exact absurd a h
 ·rename_i h;obtain⟨b,c,d⟩:=tK (by omega:iK es cols zs=0);exact⟨(nL b).1,c⟩
end Go.Proofs.YtopjjlmfilgngaaGreatDoor
