/-
  check.checkCond. check.checkRows. Plain law: soundness of a node and of a whole expression; equality of values. No program is in sight. scalar.special and scalar.apply: with their operands they return opV. (Printed by gen_app.py.) Plain law: the loop that evaluates an expression, step by step. No program is in sight.
-/
import Derived.Test.YtopjjlmfilgngaaGreatDoorGai
import Derived.Test.YtopjjlmfilgngaaGreatDoorTypG
import Derived.Test.YtopjjlmfilgngaaGreatDoorGaj
import Derived.Test.YtopjjlmfilgngaaGreatDoorGad
import Derived.Test.YtopjjlmfilgngaaGreatDoorGak
namespace Go.Proofs.YtopjjlmfilgngaaGreatDoor
set_option maxHeartbeats 4000000
set_option maxRecDepth 100000
open Go.RowKit
set_option linter.unusedSimpArgs false
set_option linter.unusedVariables false
def aB (x:Chk)(A:Option Addr)(n c:Nat)(A':Option Addr)(n' c':Nat)(aX:Option Addr)(n'' c'':Nat):List Value:=[.string x.name,.string x.table,.int .i64 x.kind,.slice A n c,.string x.other,.slice A' n' c',.int .i64 x.low,.int .i64 x.high,.slice aX n'' c'',.int .i64 x.ln,.int .i64 x.ld,.int .i64 x.mn,.int .i64 x.md,.int .i64 x.policy]
theorem Bh (w:World)(x:Chk)(A:Option Addr)(n c:Nat)(A':Option Addr)(n' c':Nat)(aX:Option Addr)(n'' c'':Nat)(hq:In w aX n'' c'' x.cond)(hw:Words w)(A1:Option Addr)(n1 c1:Nat)(cols:List Col)(hc:In w A1 n1 c1 cols)(A2:Option Addr)(n2 c2:Nat)(zs:List Zone)(hz:In w A2 n2 c2 zs):
  Calls Tryz.prog 146 #[.agg (aB x A n c A' n' c' aX n'' c'').toArray,.slice A1 n1 c1,.slice A2 n2 c2] w λe w'=>e=.returned (.int .i64 (gu x cols zs))/\Below w.heap.size w w':=by
 have HD:=hide (show gu x cols zs=if (bU x.cond cols zs).1≠0 then (bU x.cond cols zs).1 else if (bU x.cond cols zs).2.kind≠1/\(bU x.cond cols zs).2.kind≠0 then 7 else 0 from rfl);have HT:=hide λW hq hw hc hz=>Gc W aX n'' c'' x.cond hq hw A1 n1 c1 cols hc A2 n2 c2 zs hz;obtain ⟨R,hR⟩: ∃R,gu x cols zs=R:=⟨_,rfl⟩;obtain ⟨T,hT⟩: ∃T,bU x.cond cols zs=T:=⟨_,rfl⟩;rw[hR,hT]at HD;rw[hT]at HT;rw[hR];clear hR hT;obtain ⟨te,tk,tn⟩:=T;simp only at HD HT;simp only[aB];go_enter Tryz.func146,Tryz.ntmps146;go_wp2_with fail;refine (HT.out _ (by exact hq.below ae) (by exact hw.below ae) (by exact hc.below ae) (by exact hz.below ae)).mono ?_;rintro e w1 ⟨rfl,hb1⟩;have HB1:=hide (aa ae hb1);clear hb1 hq hw hc hz HT;by_cases h0:te=0
 ·subst h0;by_cases h1:tk=1
  ·subst h1;obtain rfl:R=0:=by rw[HD.out];simp
   go_wp2;all_goals (try (exfalso;go_light;simp_all;done));go_ret;exact ⟨rfl,HB1.out⟩
  ·by_cases h2:tk=0
   ·subst h2;obtain rfl:R=0:=by rw[HD.out];simp
    go_wp2;all_goals (try (exfalso;go_light;simp_all;done));go_ret;exact ⟨rfl,HB1.out⟩
   ·have q1:(tk != 1)=true:=by simpa using h1
    have q2:(tk != 0)=true:=by simpa using h2
    obtain rfl:R=7:=by rw[HD.out];simp[h1,h2]
    go_wp2;all_goals (try (exfalso;go_light;simp_all;done));go_ret;exact ⟨rfl,HB1.out⟩
 ·have q0:(te != 0)=true:=by simpa using h0
  obtain rfl:R=te:=by rw[HD.out];simp[h0]
  go_wp2;all_goals (try (exfalso;go_light;simp_all;done));go_ret;exact ⟨rfl,HB1.out⟩
def bP (cols:List Col)(rows:List Ent):Int:=if aL rows≠0 then aL rows else if dZ rows=false then 8 else ai (λ_ x=>aG cols x.row) 0 rows
theorem tu (w:World)(nm:ByteArray)(A:Option Addr)(n c:Nat)(cols:List Col)(hc:In w A n c cols)(A':Option Addr)(n' c':Nat)(A2:Option Addr)(n2 c2:Nat)(rows:List Ent)(hr:In w A2 n2 c2 rows):
  Calls Tryz.prog 114 #[.agg #[.string nm,.slice A n c,.slice A' n' c',.slice A2 n2 c2]] w λe w'=>e=.returned (.int .i64 (bP cols rows))/\Below w.heap.size w w':=by
 have HD:=hide (show bP cols rows=if aL rows≠0 then aL rows else if dZ rows=false then 8 else ai (λ_ x=>aG cols x.row) 0 rows from rfl);obtain ⟨R,hR⟩: ∃R,bP cols rows=R:=⟨_,rfl⟩;rw[hR]at HD;rw[hR];clear hR;have h63:=hr.le;go_enter Tryz.func114,Tryz.ntmps114;have HC:=hide hc;clear hc;have HR:=hide hr;clear hr;go_wp2_with fail;obtain ⟨W1,hW1⟩: ∃W,W=w.alloc (.cells #[.string nm,.slice A n c,.slice A' n' c',.slice A2 n2 c2] 29):=⟨_,rfl⟩;obtain ⟨hbW1,fZ,g0,g1,g2,g3⟩:=kr hW1 rfl;rw[<-hW1];clear hW1;have HC:=hide (HC.out.below hbW1);have HR:=hide (HR.out.below hbW1);have lN:=hide hbW1;clear hbW1;have LR:=lt_of_cell g0;obtain ⟨B,hB⟩: ∃B,aL rows=B:=⟨_,rfl⟩;have xS:=hide hB;obtain ⟨T,hT⟩: ∃T,dZ rows=T:=⟨_,rfl⟩;have Y5:=hide hT;rw[hB,hT]at HD;clear hB hT;refine (Di _ A2 n2 c2 rows HR.out).mono ?_;rintro e w2 ⟨rfl,hb2⟩;have HC:=hide (HC.out.below hb2);have HR:=hide (HR.out.below hb2);obtain ⟨g0,g1,g2,g3,LR⟩:=wU hb2 LR g0 g1 g2 g3;have oF:=hide (aa lN.out hb2);clear hb2;rw[xS.out];by_cases h0:B=0
 ·subst h0;go_wp2_with fail;refine (xh _ A2 n2 c2 rows HR.out).mono ?_;rintro e w4 ⟨rfl,hb4⟩;have HC:=hide (HC.out.below hb4);have HR:=hide (HR.out.below hb4);obtain ⟨g0,g1,g2,g3,LR⟩:=wU hb4 LR g0 g1 g2 g3;have kL:=hide (aa oF.out hb4);clear hb4;rw[Y5.out];cases T
  ·obtain rfl:R=8:=by rw[HD.out];simp
   go_wp2;all_goals (try (exfalso;go_light;simp_all;done));go_ret;exact ⟨rfl,kL.out⟩
  ·have HD2:Hid (R=ai (λ_ x=>aG cols x.row) 0 rows):=hide (by rw[HD.out];simp);obtain ⟨W3,rfl⟩: ∃W,W=w4:=⟨_,rfl⟩;go_wp2;go_loopw [20] (λi wr=> ∃k:Nat,k<=n2/\i=.int .i64 k/\ai (λ_ x=>aG cols x.row) 0 rows=ai (λ_ x=>aG cols x.row) k (rows.drop k)/\Below W3.heap.size W3 wr) (λi _=>n2-(RowKit.intOf i).toNat)
   case atStart=>exact ⟨0,Nat.zero_le _,rfl,rfl,Below.refl _ _⟩
   case round=>
    obtain ⟨k,hk,rfl,heq,hb⟩:=hrel;have HE:=hide heq;clear heq;have HC:=hide (HC.out.below hb);have HR:=hide (HR.out.below hb);obtain ⟨g0,g1,g2,g3,LR⟩:=wU hb LR g0 g1 g2 g3;have tQ:=hide hb;clear hb;by_cases hlt:k<n2
    ·obtain ⟨b,off,x,rfl,hBb,HX,Ax,An,Ac,e0,e1,e2,e3⟩:=HR.out.ent hlt;have G1:=hide g1;have hg1:(wr.alloc (.cells #[.slice Ax An Ac,.int .i64 x.count] 50)).cell? ⟨w.heap.size,1,none⟩=some (.slice A n c):=ah ae LR g1;have fK:Below wr.heap.size wr (wr.alloc (.cells #[.slice Ax An Ac,.int .i64 x.count] 50)):=ae;have HI:=hide (e2.below fK);have Lx:=hide (HC.out.below fK);clear e2;go_wp2_with fail;refine (uK _ A Ax n An c Ac cols x.row (by exact Lx.out) (by exact HI.out)).mono ?_;rintro e w9 ⟨rfl,Bn⟩;have uB:=hide (aa tQ.out (aa fK Bn));have jk:=hide (aa (aa kL.out tQ.out) (aa fK Bn));clear fK Bn hg1;by_cases hz:aG cols x.row=0
     ·rw[hz];have HN:Hid (ai (λ_ x=>aG cols x.row) 0 rows=ai (λ_ x=>aG cols x.row) (k+1) (rows.drop (k+1))):=hide (by rw[HE.out,HX.out];exact aY hz);go_wp2;go_roundw
      case rel=>exact ⟨k+1,by omega,by go_num,HN.out,uB.out⟩
      case measure=>simp[RowKit.intOf];omega
     ·have hz':(aG cols x.row != 0)=true:=by simpa using hz
      obtain rfl:R=aG cols x.row:=by rw[HD2.out,HE.out,HX.out];exact aK rfl hz
      go_wp2;all_goals (try (exfalso;go_light;simp_all;done));go_ret;exact ⟨rfl,jk.out⟩
    ·obtain rfl:R=0:=by rw[HD2.out,HE.out,aI HR.out.len (by omega),ai]
     go_wp2;all_goals (try (exfalso;go_light;simp_all;done));go_ret;exact ⟨rfl,(aa kL.out tQ.out)⟩
 ·have q0:(B != 0)=true:=by simpa using h0
  obtain rfl:R=B:=by rw[HD.out];simp[h0]
  go_wp2;all_goals (try (exfalso;go_light;simp_all;done));go_ret;exact ⟨rfl,oF.out⟩
theorem dU {α:Type}{f:Nat->α->Int}: ∀{l:List α} {k:Nat},ai f k l=0-> ∀i x,l[i]?=some x->f (k+i) x=0
 | [],_,_,i,x,h=>by simp at h
 |y :: l,k,h,i,x,hx=>by
  rw[ai]at h
  split at h
  ·contradiction
  ·rename_i h0;cases i with
   |zero=>simp at hx;subst hx;simpa using h0
   |succ i=>
    have:=dU h i x (by simpa using hx);rw[show k+(i+1)=k+1+i by omega];exact this
theorem MV {cols:List Col}(h:aC cols=0){i:Nat}{c:Col}(hc:cols[i]?=some c):1<=c.kind/\c.kind<=4:=by
 rw[aC]at h
 split at h
 ·omega
 ·have:=dU h i c hc;rw[gK]at this
  split at this
  ·omega
  ·split at this
   ·omega
   ·omega
theorem zW {cols:List Col}{row:List Val}(h:aG cols row=0){i:Nat}{v:Val}(hv:row[i]?=some v):bZ (cols.getD i default) v=0:=by
 rw[aG]at h
 split at h
 ·omega
 ·have:=dU h i v hv;simpa using this
theorem yj {cols:List Col}{row:List Val}(h:aG cols row=0):row.length=cols.length:=by
 rw[aG]at h
 split at h
 ·omega
 ·rename_i q;omega
theorem qX {es:List Node}{cols:List Col}{zs:List Zone}(h:bI es cols zs=0):bK es=0/\aC cols=0/\Ba zs=0:=by
 rw[bI]at h
 split at h
 ·omega
 ·split at h
  ·omega
  ·omega
theorem GV {cols:List Col}{name:ByteArray}(h:¬index cols name<0): ∃(i:Nat) (c:Col),index cols name=(i:Int)/\cols[i]?=some c/\i<cols.length:=by
 rcases iB name cols 0 with hr|⟨h1,h2⟩
 ·exact absurd (by rw[index,hr];omega) h
 ·have hi:(index cols name).toNat<cols.length:=by rw[index];omega
  exact ⟨(index cols name).toNat,cols[(index cols name).toNat],by rw[index]at*;omega,List.getElem?_eq_getElem hi,hi⟩
theorem xZ {α:Type}{l:List α}{i:Nat}{x d:α}(h:l[i]?=some x):l.getD i d=x:=by rw[List.getD,h];rfl
theorem xm {α:Type}{l:List α}(h:l.length=1): ∃x,l=[x]:=by
 match l,h with
 | [x],_=>exact ⟨x,rfl⟩
theorem NW {α:Type}{l:List α}(h:l.length=2): ∃x y,l=[x,y]:=by
 match l,h with
 | [x,y],_=>exact ⟨x,y,rfl⟩
theorem RH {α:Type}{l:List α}(h:l.length=3): ∃x y z,l=[x,y,z]:=by
 match l,h with
 | [x,y,z],_=>exact ⟨x,y,z,rfl⟩
theorem Ee {n:Node}(h:shaped n=true)(h0:n.op=0):valid n.value=true:=by
 rw[shaped,if_pos h0]at h;simp at h;exact h.1.1
theorem J8 {cols:List Col}{row:List Val}(hc:aC cols=0)(hr:aG cols row=0){i:Nat}{c:Col}(hi:cols[i]?=some c):iL ⟨c.kind,c.nullable⟩/\Has ⟨c.kind,c.nullable⟩ (row.getD i bG):=by
 have hk:=MV hc hi;have hl:=(List.getElem?_eq_some_iff.1 hi).1;have hl':i<row.length:=by rw[yj hr];exact hl
 have hv:=List.getElem?_eq_getElem hl';have he:=zW hr hv;rw[xZ hi]at he;rw[xZ hv];generalize row[i]=v at he;refine ⟨⟨by simp only;omega,by simp only;omega,λq=>by simp only at q;omega⟩,?_⟩;rw[bZ]at he
 split at he
 ·omega
 ·rename_i h1
  split at he
  ·omega
  ·rename_i h2;have hv:valid v=true:=by cases h:valid v;exact absurd h h1;rfl
   refine ⟨hv,?_⟩;simp only;by_cases h0:v.kind=0
   ·refine .inr ⟨h0,?_⟩;cases hn:c.nullable
    ·exact absurd (.inl ⟨h0,hn⟩) h2
    ·rfl
   ·refine .inl ?_;by_cases h3:v.kind=c.kind
    ·exact h3
    ·exact absurd (.inr ⟨h0,h3⟩) h2
theorem zI {cols:List Col}{row:List Val}{zs:List Zone}{n:Node}{ks:List Kd}{vs:List Val}{k:Kd}{m:Nat}(hc:aC cols=0)(hr:aG cols row=0)(hsh:shaped n=true)(hm:arity n.op n.arity=(m:Int))(hl:ks.length=m)(hf:lU ks vs)(h:bC cols zs n ks=(0,k)):iL k/\Has k (iI cols row zs n vs):=by
 have hlv:=hf.len;rw[bC]at h;by_cases h1:n.op=1
 ·rw[if_pos h1]at h
  split at h
  ·injection h with h _;omega
  ·rename_i hi;obtain ⟨i,c,e1,e2,e3⟩:=GV hi;injection h with _ h;rw[e1,Int.toNat_natCast,xZ e2]at h;subst h;rw[iI,if_pos h1,e1,Int.toNat_natCast];exact J8 hc hr e2
 rw[if_neg h1]at h;by_cases h21:n.op=21
 ·rw[if_pos h21]at h;injection h with h _;omega
 rw[if_neg h21]at h
 split at h
 ·injection h with h _;omega
 split at h
 ·injection h with h _;omega
 rename_i hok;have hok:(di n ks).2=true:=by cases q:(di n ks).2;exact absurd q hok;rfl
 injection h with _ h;subst h;rw[iI,if_neg h1];rcases CG hsh h1 h21 with h0|⟨hlo,hhi⟩
 ·have:m=0:=by rw[arity,if_pos (.inl h0)]at hm;omega
  subst this;obtain rfl:=List.eq_nil_of_length_eq_zero hl;obtain rfl:=List.eq_nil_of_length_eq_zero (hlv.symm.trans hl);have hv:=Ee hsh h0;have hk:=IK hv;simp only[di,uk];exact ⟨⟨hk.1,hk.2,λq=>by simpa using q⟩,fT hv (.inl rfl)⟩
 by_cases ha:n.op=2\/n.op=3\/n.op=16\/n.op=19\/n.op=20
 ·have:m=1:=by rw[arity,if_neg (by omega),if_pos ha]at hm;omega
  subst this;obtain ⟨x,rfl⟩:=xm hl;obtain ⟨v,rfl⟩:=xm (hlv.symm.trans hl);exact OW ha hf.1.1 hf.1.2 hok
 by_cases XP:n.op=17
 ·have:m=3:=by rw[arity,if_neg (by omega),if_neg ha,if_pos XP]at hm;omega
  subst this;obtain ⟨x,y,z,rfl⟩:=RH hl;obtain ⟨a,b,c,rfl⟩:=RH (hlv.symm.trans hl);simp only[di]at hok⊢;rw[Bool.and_eq_true]at hok;exact NP hf.2.1.1 hf.2.1.2 hf.2.2.1.1 hf.2.2.1.2 hok.1
 ·have:m=2:=by rw[arity,if_neg (by omega),if_neg ha,if_neg XP,if_neg h21,if_pos (by omega)]at hm;omega
  subst this;obtain ⟨x,y,rfl⟩:=NW hl;obtain ⟨a,b,rfl⟩:=NW (hlv.symm.trans hl);exact JU (by omega) hf.1.1 hf.1.2 hf.2.1.1 hf.2.1.2 hok
theorem vE {cols:List Col}{zs:List Zone}{ks:List Kd}{n:Node}{l:List Node}{r m:Nat}(hm:arity n.op n.arity=(m:Int))(hl:ks.length=r+m)(h:(aQ cols zs ks (n :: l)).1=0):
  ∃k,bC cols zs n (ks.drop r)=(0,k)/\aQ cols zs ks (n :: l)=aQ cols zs (ks.take r++[k]) l:=by
 by_cases h0:(bC cols zs n (ks.drop r)).1=0
 ·refine ⟨(bC cols zs n (ks.drop r)).2,Prod.ext h0 rfl,fB hm hl (Prod.ext h0 rfl)⟩
 ·rw[fe hm hl rfl h0]at h;exact absurd h h0
theorem Ag {cols:List Col}{row:List Val}{zs:List Zone}{vs:List Val}{n:Node}{l:List Node}{r m:Nat}(hm:arity n.op n.arity=(m:Int))(hl:vs.length=r+m):
  iJ cols row zs vs (n :: l)=iJ cols row zs (vs.take r++[iI cols row zs n (vs.drop r)]) l:=by
 rw[iJ,hl,pq hm]
theorem zB {cols:List Col}{row:List Val}{zs:List Zone}(hc:aC cols=0)(hr:aG cols row=0): ∀(l:List Node) (hs:List Int) (ks:List Kd) (vs:List Val),aS hs l=0->hs.length=ks.length->lU ks vs->
  (aQ cols zs ks l).1=0->iL (aQ cols zs ks l).2/\Has (aQ cols zs ks l).2 (iJ cols row zs vs l)
 | [],hs,ks,vs,he,hl,hf,_=>by
  have:=lX he rfl;obtain ⟨x,rfl⟩:=xm (hl.symm.trans this);obtain ⟨v,rfl⟩:=xm (hf.len.symm.trans (hl.symm.trans this));exact hf.1
 |n :: l,hs,ks,vs,he,hl,hf,ht=>by
  obtain ⟨m,r,hs',hsh,hm,_,hd,hl',he'⟩:=lY he hl;obtain ⟨k,hk,hq⟩:=vE hm hd ht;rw[hq]at ht⊢;rw[Ag hm (hf.len.symm.trans hd)];refine zB hc hr l hs' _ _ he' (by rw[hl',List.length_append,List.length_take,hd];simp) ((hf.take r).push ?_) ht;exact zI hc hr hsh hm (by rw[List.length_drop];omega) (hf.drop r) hk
theorem G8 {cols:List Col}{row:List Val}{zs:List Zone}{es:List Node}(hr:aG cols row=0)(ht:(bU es cols zs).1=0):iL (bU es cols zs).2/\Has (bU es cols zs).2 (iJ cols row zs [] es):=by
 rw[bU]at ht⊢
 split at ht
 ·rename_i h;exact absurd ht h
 ·rename_i h;rw[if_neg h];have h:bI es cols zs=0:=by omega
  obtain ⟨h1,h2,h3⟩:=qX h;exact zB h2 hr es [] [] [] (ky h1).2 rfl trivial ht
section
variable {P:Program}
theorem bS {fn:Func}{p q:Tmp}{ty:TypeId}(h:fn.results= #[.cell p ty,.tmp q])(tmps:Array Value)(w:World)(g:Nat)(cs:List Value)(d:TypeDesc)(u:Value)(hp:tmps.getD p undef=.pointer (some ⟨g,0,none⟩))(hq:tmps.getD q undef=u)(hc: ∀j v,cs[j]?=some v->w.cell? ⟨g,j,none⟩=some v)(hu:P.underlying ty=some d)(hd:(match d with| .struct _| .array _ _=>true| _=>false)=true)(hi:(P.info? ty).map (·.size)=some cs.length):
  (results fn tmps).run P w=.ok (.tuple #[.agg cs.toArray,u]) w:=by
 have h1:=bJ (P:=P) (fn:={fn with results:= #[.cell p ty]}) (p:=p) (ty:=ty) rfl tmps w g cs d hp hc hu hd hi;have hl:(loadVar ty ⟨g,0,none⟩).run P w=.ok (.agg cs.toArray) w:=by
  have hp':tmps[p]?.getD undef=.pointer (some ⟨g,0,none⟩):=by simpa using hp
  simp only[results]at h1;simpa[hp',asAddr,Sem.run_bind,Result.andThen] using h1
 have hp':tmps[p]?.getD undef=.pointer (some ⟨g,0,none⟩):=by simpa using hp
 have hq':tmps[q]?.getD undef=u:=by simpa using hq
 simp[results,h,hp',hq',asAddr,hl]
end
theorem mi {w:World}{b off n c k:Nat}{xs:List Val}(h:In w (some ⟨b,off,none⟩) n c xs)(hk:k<n){x:Val}(hx:xs[k]?=some x):
  b<w.heap.size/\V3 w b (off+k*3) x/\x.ok:=by
 obtain ⟨b',off',y,e,hb,HY,f0,f1,f2,hok⟩:=h.val hk;injection e with e;injection e with e1 e2;subst e1 e2;have:=(bX HY.out).1;rw[hx]at this;injection this with this;subst this;exact ⟨hb,⟨f0,f1,f2⟩,hok⟩
theorem Zr.drewN {w:World}{g:Nat}(h:Zr w g)(n:Nat):Zr (w.drewN n) g:=⟨h.c0,h.c1,h.c2,h.f0,h.f1,h.f2,h.lt⟩
theorem WW (op kd nu ar:Int)(st nm:ByteArray)(q0:(op==0)=false)(q1:(op==14)=false)(q2:(op==15)=false)(q3:(op==16)=false)(q4:(op==17)=false)(q5:(op==18)=false)(w:World)(v:Value):
  Calls Tryz.prog 189 #[.agg #[.int .i64 op,.int .i64 kd,.int .i64 nu,.string st,.string nm,.int .i64 ar],v] w λe w'=>e=.returned (.tuple #[.agg bG.cells.toArray,.bool false])/\Below w.heap.size w w':=by
 go_enter Tryz.func189,Tryz.ntmps189;go_wp2;refine bodyPost_ret (v:=.tuple #[.agg bG.cells.toArray,.bool false]) (by simp[results,Tryz.results189,go_sem,Val.cells,bG]) rfl ⟨rfl,by first|exact below_alloc2|exact aJ below_alloc2 (by omega) _ _ _⟩
structure Run (cols:List Col) (row:List Val) (zs:List Zone) (es:List Node) (k d:Nat) (hs:List Int) (ks:List Kd) (vs:List Val):Prop where
 ex:aS hs (es.drop k)=0
 hl:hs.length=d
 vl:vs.length=d
 fit:lU ks vs
 ty:(aQ cols zs ks (es.drop k)).1=0
 va:iJ cols row zs [] es=iJ cols row zs vs (es.drop k)
theorem Run.start {cols:List Col}{row:List Val}{zs:List Zone}{es:List Node}(ht:(bU es cols zs).1=0):Run cols row zs es 0 0 [] [] []:=by
 rw[bU]at ht
 split at ht
 ·rename_i h;exact absurd ht h
 ·rename_i h;obtain ⟨h1,h2,h3⟩:=qX (by omega:bI es cols zs=0);exact ⟨(ky h1).2,rfl,rfl,trivial,ht,rfl⟩
structure Step (cols:List Col) (row:List Val) (zs:List Zone) (es:List Node) (k r m:Nat) (x:Node) (vs:List Val):Prop where
 sh:shaped x=true
 ar:arity x.op x.arity=(m:Int)
 m8:m<=8
 n21:x.op≠21
 col:x.op=1->m=0/\0<=index cols x.name/\index cols x.name<cols.length
 val: ∀v∈vs.drop r,valid v=true
 bool:x.op=2->(∀v∈vs.drop r,v.kind≠0)-> ∀v∈vs.drop r,v.kind=1
 new:valid (iI cols row zs x (vs.drop r))=true
theorem Run.step {cols:List Col}{row:List Val}{zs:List Zone}{es:List Node}{k d:Nat}{hs:List Int}{ks:List Kd}{vs:List Val}(hc:aC cols=0)(hr:aG cols row=0)(h:Run cols row zs es k d hs ks vs){x:Node}(hx:es.drop k=x :: es.drop (k+1)):
  ∃m r hs' ks',d=r+m/\Step cols row zs es k r m x vs/\Run cols row zs es (k+1) (r+1) hs' ks' (vs.take r++[iI cols row zs x (vs.drop r)]):=by
 obtain ⟨he,hl,vl,hf,ht,hv⟩:=h;rw[hx]at he ht hv;obtain ⟨m,r,hs',hsh,hm,QU,hd,hl',he'⟩:=lY he hl;have hkl:ks.length=r+m:=by rw[hf.len,vl];exact hd
 obtain ⟨kd,hk,hq⟩:=vE hm hkl ht;have hs:=zI hc hr hsh hm (by rw[List.length_drop];omega) (hf.drop r) hk;refine ⟨m,r,hs',ks.take r++[kd],hd,⟨hsh,hm,QU,?_,?_,(hf.drop r).valid,?_,hs.2.1⟩,⟨he',hl',?_,(hf.take r).push hs,by rw[<-hq];exact ht,?_⟩⟩
 ·intro h21;rw[bC,if_neg (by omega),if_pos h21]at hk;injection hk with hk _;omega
 ·intro h1;rw[bC,if_pos h1]at hk
  split at hk
  ·injection hk with hk _;omega
  ·rename_i hi;obtain ⟨i,c,e1,e2,e3⟩:=GV hi;refine ⟨?_,by omega,by omega⟩;rw[h1]at hm;simp[arity]at hm;omega
 ·intro h2 hn v hv;have hm1:m=1:=by rw[h2]at hm;simp[arity]at hm;omega
  subst hm1;obtain ⟨a,ha⟩:=xm (show (ks.drop r).length=1 by rw[List.length_drop];omega);obtain ⟨b,hb⟩:=xm (show (vs.drop r).length=1 by rw[List.length_drop];omega);have Z7:=hf.drop r;rw[ha,hb]at Z7;rw[hb]at hv;simp at hv;subst hv;rw[ha,bC,if_neg (by omega),if_neg (by omega),if_neg (by omega)]at hk
  split at hk
  ·injection hk with hk _;omega
  ·rename_i hq2;simp[di,qB,h2]at hq2;refine (oO Z7.1.1 Z7.1.2 hq2).resolve_right ?_;exact hn v (by rw[hb];simp)
 ·rw[List.length_append,List.length_take];simp;omega
 ·rw[hv,Ag hm (by rw[vl];exact hd)]
theorem Run.last {cols:List Col}{row:List Val}{zs:List Zone}{es:List Node}{k d:Nat}{hs:List Int}{ks:List Kd}{vs:List Val}(h:Run cols row zs es k d hs ks vs)(hx:es.drop k=[]):
  d=1/\ ∃v,vs=[v]/\iJ cols row zs [] es=v:=by
 obtain ⟨he,hl,vl,hf,ht,hv⟩:=h;rw[hx]at he hv;have:=lX he rfl;obtain rfl:d=1:=by omega
 obtain ⟨v,rfl⟩:=xm vl;exact ⟨rfl,v,rfl,by rw[hv];rfl⟩
theorem Run.short {cols:List Col}{row:List Val}{zs:List Zone}{es:List Node}(ht:(bU es cols zs).1=0):es.length<=256/\aC cols=0:=by
 rw[bU]at ht
 split at ht
 ·rename_i h;exact absurd ht h
 ·rename_i h;obtain ⟨h1,h2,h3⟩:=qX (by omega:bI es cols zs=0);exact ⟨(ky h1).1,h2⟩
end Go.Proofs.YtopjjlmfilgngaaGreatDoor
