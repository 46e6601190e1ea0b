/-
  check.checkCond. check.checkRows. Plain law: soundness of a node and of a whole expression; equality of values. No program is in sight. Plain law: the loop that evaluates an expression, step by step. No program is in sight.
-/
import Derived.Test.YtggejcekmehocaaGreatDoorGar
import Derived.Test.YtggejcekmehocaaGreatDoorTypG
import Derived.Test.YtggejcekmehocaaGreatDoorGag
import Derived.Test.YtggejcekmehocaaGreatDoorGad
import Derived.Test.YtggejcekmehocaaGreatDoorGai
namespace Go.Proofs.YtggejcekmehocaaGreatDoor
set_option maxHeartbeats 4000000
set_option maxRecDepth 100000
open Go.RowKit
set_option linter.unusedSimpArgs false
set_option linter.unusedVariables false
def chkCells (x:Chk)(A:Option Addr)(n c:Nat)(A':Option Addr)(n' c':Nat)(A'':Option Addr)(n'' c'':Nat):List Value:=[.string x.name,.string x.table,.int .i64 x.kind,.slice A n c,.string x.other,.slice A' n' c',.int .i64 x.low,.int .i64 x.high,.slice A'' n'' c'',.int .i64 x.ln,.int .i64 x.ld,.int .i64 x.mn,.int .i64 x.md,.int .i64 x.policy]
theorem checkCond_any (w:World)(x:Chk)(A:Option Addr)(n c:Nat)(A':Option Addr)(n' c':Nat)(A'':Option Addr)(n'' c'':Nat)(hq:In w A'' n'' c'' x.cond)(hw:Words w)(A1:Option Addr)(n1 c1:Nat)(cols:List Col)(hc:In w A1 n1 c1 cols)(A2:Option Addr)(n2 c2:Nat)(zs:List Zone)(hz:In w A2 n2 c2 zs):
  Calls Tryz.prog 135 #[.agg (chkCells x A n c A' n' c' A'' n'' c'').toArray,.slice A1 n1 c1,.slice A2 n2 c2] w λe w'=>e=.returned (.int .i64 (chkCond x cols zs))/\Below w.heap.size w w':=by
 have HD:=hide (show chkCond x cols zs=if (typeS x.cond cols zs).1≠0 then (typeS x.cond cols zs).1 else if (typeS x.cond cols zs).2.kind≠1/\(typeS x.cond cols zs).2.kind≠0 then 7 else 0 from rfl)
 have HT:=hide λW hq hw hc hz=>type_any W A'' n'' c'' x.cond hq hw A1 n1 c1 cols hc A2 n2 c2 zs hz
 obtain ⟨R,hR⟩: ∃R,chkCond x cols zs=R:=⟨_,rfl⟩
 obtain ⟨T,hT⟩: ∃T,typeS x.cond cols zs=T:=⟨_,rfl⟩
 rw[hR,hT]at HD
 rw[hT]at HT
 rw[hR]
 clear hR hT
 obtain ⟨te,tk,tn⟩:=T
 simp only at HD HT
 simp only[chkCells]
 go_enter Tryz.func135,Tryz.ntmps135
 go_wp2_with fail
 refine (HT.out _ (by exact hq.below below_alloc) (by exact hw.below below_alloc) (by exact hc.below below_alloc) (by exact hz.below below_alloc)).mono ?_
 rintro e w1 ⟨rfl,hb1⟩
 have HB1:=hide (below_trans below_alloc hb1)
 clear hb1 hq hw hc hz HT
 by_cases h0:te=0
 ·subst h0
  by_cases h1:tk=1
  ·subst h1
   obtain rfl:R=0:=by rw[HD.out];simp
   go_wp2
   all_goals (try (exfalso;go_light;simp_all;done))
   go_ret
   exact ⟨rfl,HB1.out⟩
  ·by_cases h2:tk=0
   ·subst h2
    obtain rfl:R=0:=by rw[HD.out];simp
    go_wp2
    all_goals (try (exfalso;go_light;simp_all;done))
    go_ret
    exact ⟨rfl,HB1.out⟩
   ·have q1:(tk != 1)=true:=by simpa using h1
    have q2:(tk != 0)=true:=by simpa using h2
    obtain rfl:R=7:=by rw[HD.out];simp[h1,h2]
    go_wp2
    all_goals (try (exfalso;go_light;simp_all;done))
    go_ret
    exact ⟨rfl,HB1.out⟩
 ·have q0:(te != 0)=true:=by simpa using h0
  obtain rfl:R=te:=by rw[HD.out];simp[h0]
  go_wp2
  all_goals (try (exfalso;go_light;simp_all;done))
  go_ret
  exact ⟨rfl,HB1.out⟩
def tabErr (cols:List Col)(rows:List Ent):Int:=if bagErr rows≠0 then bagErr rows else if isTable rows=false then 8 else firstErr (λ_ x=>rowErr cols x.row) 0 rows
theorem checkRows_chk (w:World)(nm:ByteArray)(A:Option Addr)(n c:Nat)(cols:List Col)(hc:In w A n c cols)(A':Option Addr)(n' c':Nat)(A2:Option Addr)(n2 c2:Nat)(rows:List Ent)(hr:In w A2 n2 c2 rows):
  Calls Tryz.prog 91 #[.agg #[.string nm,.slice A n c,.slice A' n' c',.slice A2 n2 c2]] w λe w'=>e=.returned (.int .i64 (tabErr cols rows))/\Below w.heap.size w w':=by
 have HD:=hide (show tabErr cols rows=if bagErr rows≠0 then bagErr rows else if isTable rows=false then 8 else firstErr (λ_ x=>rowErr cols x.row) 0 rows from rfl)
 obtain ⟨R,hR⟩: ∃R,tabErr cols rows=R:=⟨_,rfl⟩
 rw[hR]at HD
 rw[hR]
 clear hR
 have h63:=hr.le
 go_enter Tryz.func91,Tryz.ntmps91
 have HC:=hide hc
 clear hc
 have HR:=hide hr
 clear hr
 go_wp2_with fail
 obtain ⟨W1,hW1⟩: ∃W,W=w.alloc (.cells #[.string nm,.slice A n c,.slice A' n' c',.slice A2 n2 c2] 32):=⟨_,rfl⟩
 obtain ⟨hbW1,SZW1,g0,g1,g2,g3⟩:=boxed4 hW1 rfl
 rw[<-hW1]
 clear hW1
 have HC:=hide (HC.out.below hbW1)
 have HR:=hide (HR.out.below hbW1)
 have SG1:=hide hbW1
 clear hbW1
 have LR:=lt_of_cell g0
 obtain ⟨B,hB⟩: ∃B,bagErr rows=B:=⟨_,rfl⟩
 have HBE:=hide hB
 obtain ⟨T,hT⟩: ∃T,isTable rows=T:=⟨_,rfl⟩
 have HTE:=hide hT
 rw[hB,hT]at HD
 clear hB hT
 refine (bag_any _ A2 n2 c2 rows HR.out).mono ?_
 rintro e w2 ⟨rfl,hb2⟩
 have HC:=hide (HC.out.below hb2)
 have HR:=hide (HR.out.below hb2)
 obtain ⟨g0,g1,g2,g3,LR⟩:=bats4 hb2 LR g0 g1 g2 g3
 have SG3:=hide (below_trans SG1.out hb2)
 clear hb2
 rw[HBE.out]
 by_cases h0:B=0
 ·subst h0
  go_wp2_with fail
  refine (isTable_any _ A2 n2 c2 rows HR.out).mono ?_
  rintro e w4 ⟨rfl,hb4⟩
  have HC:=hide (HC.out.below hb4)
  have HR:=hide (HR.out.below hb4)
  obtain ⟨g0,g1,g2,g3,LR⟩:=bats4 hb4 LR g0 g1 g2 g3
  have SG5:=hide (below_trans SG3.out hb4)
  clear hb4
  rw[HTE.out]
  cases T
  ·obtain rfl:R=8:=by rw[HD.out];simp
   go_wp2
   all_goals (try (exfalso;go_light;simp_all;done))
   go_ret
   exact ⟨rfl,SG5.out⟩
  ·have HD2:Hid (R=firstErr (λ_ x=>rowErr cols x.row) 0 rows):=hide (by rw[HD.out];simp)
   obtain ⟨W3,rfl⟩: ∃W,W=w4:=⟨_,rfl⟩
   go_wp2
   go_loopw [20] (λi wr=> ∃k:Nat,k<=n2/\i=.int .i64 k/\firstErr (λ_ x=>rowErr cols x.row) 0 rows=firstErr (λ_ x=>rowErr cols x.row) k (rows.drop k)/\Below W3.heap.size W3 wr) (λi _=>n2-(RowKit.intOf i).toNat)
   case atStart=>exact ⟨0,Nat.zero_le _,rfl,rfl,Below.refl _ _⟩
   case round=>
    obtain ⟨k,hk,rfl,heq,hb⟩:=hrel
    have HE:=hide heq
    clear heq
    have HC:=hide (HC.out.below hb)
    have HR:=hide (HR.out.below hb)
    obtain ⟨g0,g1,g2,g3,LR⟩:=bats4 hb LR g0 g1 g2 g3
    have SG6:=hide hb
    clear hb
    by_cases hlt:k<n2
    ·obtain ⟨b,off,x,rfl,hBb,HX,Ax,An,Ac,e0,e1,e2,e3⟩:=HR.out.ent hlt
     have G1:=hide g1
     have hg1:(wr.alloc (.cells #[.slice Ax An Ac,.int .i64 x.count] 61)).cell? ⟨w.heap.size,1,none⟩=some (.slice A n c):=bat below_alloc LR g1
     have hb9:Below wr.heap.size wr (wr.alloc (.cells #[.slice Ax An Ac,.int .i64 x.count] 61)):=below_alloc
     have HI:=hide (e2.below hb9)
     have HCI:=hide (HC.out.below hb9)
     clear e2
     go_wp2_with fail
     refine (checkRow_any _ A Ax n An c Ac cols x.row (by exact HCI.out) (by exact HI.out)).mono ?_
     rintro e w9 ⟨rfl,hb10⟩
     have HB9:=hide (below_trans SG6.out (below_trans hb9 hb10))
     have HBW:=hide (below_trans (below_trans SG5.out SG6.out) (below_trans hb9 hb10))
     clear hb9 hb10 hg1
     by_cases hz:rowErr cols x.row=0
     ·rw[hz]
      have HN:Hid (firstErr (λ_ x=>rowErr cols x.row) 0 rows=firstErr (λ_ x=>rowErr cols x.row) (k+1) (rows.drop (k+1))):=hide (by rw[HE.out,HX.out];exact firstErr_zero hz)
      go_wp2
      go_roundw
      case rel=>exact ⟨k+1,by omega,by go_num,HN.out,HB9.out⟩
      case measure=>simp[RowKit.intOf];omega
     ·have hz':(rowErr cols x.row != 0)=true:=by simpa using hz
      obtain rfl:R=rowErr cols x.row:=by rw[HD2.out,HE.out,HX.out];exact firstErr_err rfl hz
      go_wp2
      all_goals (try (exfalso;go_light;simp_all;done))
      go_ret
      exact ⟨rfl,HBW.out⟩
    ·obtain rfl:R=0:=by rw[HD2.out,HE.out,drop_end HR.out.len (by omega),firstErr]
     go_wp2
     all_goals (try (exfalso;go_light;simp_all;done))
     go_ret
     exact ⟨rfl,(below_trans SG5.out SG6.out)⟩
 ·have q0:(B != 0)=true:=by simpa using h0
  obtain rfl:R=B:=by rw[HD.out];simp[h0]
  go_wp2
  all_goals (try (exfalso;go_light;simp_all;done))
  go_ret
  exact ⟨rfl,SG3.out⟩
theorem firstErr_zero_all {α:Type}{f:Nat->α->Int}: ∀{l:List α} {k:Nat},firstErr f k l=0-> ∀i x,l[i]?=some x->f (k+i) x=0
 | [],_,_,i,x,h=>by simp at h
 |y :: l,k,h,i,x,hx=>by
  rw[firstErr]at h
  split at h
  ·contradiction
  ·rename_i h0
   cases i with
   |zero=>simp at hx;subst hx;simpa using h0
   |succ i=>
    have:=firstErr_zero_all h i x (by simpa using hx)
    rw[show k+(i+1)=k+1+i by omega];exact this
theorem cols_col {cols:List Col}(h:colsErr cols=0){i:Nat}{c:Col}(hc:cols[i]?=some c):1<=c.kind/\c.kind<=4:=by
 rw[colsErr]at h
 split at h
 ·omega
 ·have:=firstErr_zero_all h i c hc
  rw[colErr]at this
  split at this
  ·omega
  ·split at this
   ·omega
   ·omega
theorem row_cell {cols:List Col}{row:List Val}(h:rowErr cols row=0){i:Nat}{v:Val}(hv:row[i]?=some v):cellErr (cols.getD i default) v=0:=by
 rw[rowErr]at h
 split at h
 ·omega
 ·have:=firstErr_zero_all h i v hv
  simpa using this
theorem row_len {cols:List Col}{row:List Val}(h:rowErr cols row=0):row.length=cols.length:=by
 rw[rowErr]at h
 split at h
 ·omega
 ·rename_i q;omega
theorem check_parts {es:List Node}{cols:List Col}{zs:List Zone}(h:checkErr es cols zs=0):exprErr es=0/\colsErr cols=0/\zonesErr zs=0:=by
 rw[checkErr]at h
 split at h
 ·omega
 ·split at h
  ·omega
  ·omega
theorem col_at {cols:List Col}{name:ByteArray}(h:¬index cols name<0): ∃(i:Nat) (c:Col),index cols name=(i:Int)/\cols[i]?=some c/\i<cols.length:=by
 rcases indexFrom_range name cols 0 with hr|⟨h1,h2⟩
 ·exact absurd (by rw[index,hr];omega) h
 ·have hi:(index cols name).toNat<cols.length:=by rw[index];omega
  exact ⟨(index cols name).toNat,cols[(index cols name).toNat],by rw[index]at*;omega,List.getElem?_eq_getElem hi,hi⟩
theorem getD_of {α:Type}{l:List α}{i:Nat}{x d:α}(h:l[i]?=some x):l.getD i d=x:=by rw[List.getD,h];rfl
theorem list1 {α:Type}{l:List α}(h:l.length=1): ∃x,l=[x]:=by
 match l,h with
 | [x],_=>exact ⟨x,rfl⟩
theorem list2 {α:Type}{l:List α}(h:l.length=2): ∃x y,l=[x,y]:=by
 match l,h with
 | [x,y],_=>exact ⟨x,y,rfl⟩
theorem list3 {α:Type}{l:List α}(h:l.length=3): ∃x y z,l=[x,y,z]:=by
 match l,h with
 | [x,y,z],_=>exact ⟨x,y,z,rfl⟩
theorem shaped_const {n:Node}(h:shaped n=true)(h0:n.op=0):valid n.value=true:=by
 rw[shaped,if_pos h0]at h
 simp at h
 exact h.1.1
theorem col_value {cols:List Col}{row:List Val}(hc:colsErr cols=0)(hr:rowErr cols row=0){i:Nat}{c:Col}(hi:cols[i]?=some c):KdOk ⟨c.kind,c.nullable⟩/\Has ⟨c.kind,c.nullable⟩ (row.getD i nullV):=by
 have hk:=cols_col hc hi
 have hl:=(List.getElem?_eq_some_iff.1 hi).1
 have hl':i<row.length:=by rw[row_len hr];exact hl
 have hv:=List.getElem?_eq_getElem hl'
 have he:=row_cell hr hv
 rw[getD_of hi]at he
 rw[getD_of hv]
 generalize row[i]=v at he
 refine ⟨⟨by simp only;omega,by simp only;omega,λq=>by simp only at q;omega⟩,?_⟩
 rw[cellErr]at he
 split at he
 ·omega
 ·rename_i h1
  split at he
  ·omega
  ·rename_i h2
   have hv:valid v=true:=by cases h:valid v;exact absurd h h1;rfl
   refine ⟨hv,?_⟩
   simp only
   by_cases h0:v.kind=0
   ·refine .inr ⟨h0,?_⟩
    cases hn:c.nullable
    ·exact absurd (.inl ⟨h0,hn⟩) h2
    ·rfl
   ·refine .inl ?_
    by_cases h3:v.kind=c.kind
    ·exact h3
    ·exact absurd (.inr ⟨h0,h3⟩) h2
theorem node_sound {cols:List Col}{row:List Val}{zs:List Zone}{n:Node}{ks:List Kd}{vs:List Val}{k:Kd}{m:Nat}(hc:colsErr cols=0)(hr:rowErr cols row=0)(hsh:shaped n=true)(hm:arity n.op n.arity=(m:Int))(hl:ks.length=m)(hf:Fit2 ks vs)(h:nodeKd cols zs n ks=(0,k)):KdOk k/\Has k (nodeV cols row zs n vs):=by
 have hlv:=hf.len
 rw[nodeKd]at h
 by_cases h1:n.op=1
 ·rw[if_pos h1]at h
  split at h
  ·injection h with h _;omega
  ·rename_i hi
   obtain ⟨i,c,e1,e2,e3⟩:=col_at hi
   injection h with _ h
   rw[e1,Int.toNat_natCast,getD_of e2]at h
   subst h
   rw[nodeV,if_pos h1,e1,Int.toNat_natCast]
   exact col_value hc hr e2
 rw[if_neg h1]at h
 by_cases h21:n.op=21
 ·rw[if_pos h21]at h;injection h with h _;omega
 rw[if_neg h21]at h
 split at h
 ·injection h with h _;omega
 split at h
 ·injection h with h _;omega
 rename_i hok
 have hok:(opKd n ks).2=true:=by cases q:(opKd n ks).2;exact absurd q hok;rfl
 injection h with _ h
 subst h
 rw[nodeV,if_neg h1]
 rcases shaped_op hsh h1 h21 with h0|⟨hlo,hhi⟩
 ·have:m=0:=by rw[arity,if_pos (.inl h0)]at hm;omega
  subst this
  obtain rfl:=List.eq_nil_of_length_eq_zero hl
  obtain rfl:=List.eq_nil_of_length_eq_zero (hlv.symm.trans hl)
  have hv:=shaped_const hsh h0
  have hk:=valid_kind hv
  simp only[opKd,opV]
  exact ⟨⟨hk.1,hk.2,λq=>by simpa using q⟩,has_mk hv (.inl rfl)⟩
 by_cases ha:n.op=2\/n.op=3\/n.op=16\/n.op=19\/n.op=20
 ·have:m=1:=by rw[arity,if_neg (by omega),if_pos ha]at hm;omega
  subst this
  obtain ⟨x,rfl⟩:=list1 hl
  obtain ⟨v,rfl⟩:=list1 (hlv.symm.trans hl)
  exact un_sound ha hf.1.1 hf.1.2 hok
 by_cases h17:n.op=17
 ·have:m=3:=by rw[arity,if_neg (by omega),if_neg ha,if_pos h17]at hm;omega
  subst this
  obtain ⟨x,y,z,rfl⟩:=list3 hl
  obtain ⟨a,b,c,rfl⟩:=list3 (hlv.symm.trans hl)
  simp only[opKd]at hok⊢
  rw[Bool.and_eq_true]at hok
  exact if_sound hf.2.1.1 hf.2.1.2 hf.2.2.1.1 hf.2.2.1.2 hok.1
 ·have:m=2:=by rw[arity,if_neg (by omega),if_neg ha,if_neg h17,if_neg h21,if_pos (by omega)]at hm;omega
  subst this
  obtain ⟨x,y,rfl⟩:=list2 hl
  obtain ⟨a,b,rfl⟩:=list2 (hlv.symm.trans hl)
  exact bin_sound (by omega) hf.1.1 hf.1.2 hf.2.1.1 hf.2.1.2 hok
theorem typeLoop_inv {cols:List Col}{zs:List Zone}{ks:List Kd}{n:Node}{l:List Node}{r m:Nat}(hm:arity n.op n.arity=(m:Int))(hl:ks.length=r+m)(h:(typeLoop cols zs ks (n :: l)).1=0):
  ∃k,nodeKd cols zs n (ks.drop r)=(0,k)/\typeLoop cols zs ks (n :: l)=typeLoop cols zs (ks.take r++[k]) l:=by
 by_cases h0:(nodeKd cols zs n (ks.drop r)).1=0
 ·refine ⟨(nodeKd cols zs n (ks.drop r)).2,Prod.ext h0 rfl,typeLoop_ok hm hl (Prod.ext h0 rfl)⟩
 ·rw[typeLoop_err hm hl rfl h0]at h
  exact absurd h h0
theorem valLoop_ok {cols:List Col}{row:List Val}{zs:List Zone}{vs:List Val}{n:Node}{l:List Node}{r m:Nat}(hm:arity n.op n.arity=(m:Int))(hl:vs.length=r+m):
  valLoop cols row zs vs (n :: l)=valLoop cols row zs (vs.take r++[nodeV cols row zs n (vs.drop r)]) l:=by
 rw[valLoop,hl,restOf_eq hm]
theorem loop_sound {cols:List Col}{row:List Val}{zs:List Zone}(hc:colsErr cols=0)(hr:rowErr cols row=0): ∀(l:List Node) (hs:List Int) (ks:List Kd) (vs:List Val),exprLoop hs l=0->hs.length=ks.length->Fit2 ks vs->
  (typeLoop cols zs ks l).1=0->KdOk (typeLoop cols zs ks l).2/\Has (typeLoop cols zs ks l).2 (valLoop cols row zs vs l)
 | [],hs,ks,vs,he,hl,hf,_=>by
  have:=exprLoop_end he rfl
  obtain ⟨x,rfl⟩:=list1 (hl.symm.trans this)
  obtain ⟨v,rfl⟩:=list1 (hf.len.symm.trans (hl.symm.trans this))
  exact hf.1
 |n :: l,hs,ks,vs,he,hl,hf,ht=>by
  obtain ⟨m,r,hs',hsh,hm,_,hd,hl',he'⟩:=exprLoop_inv he hl
  obtain ⟨k,hk,hq⟩:=typeLoop_inv hm hd ht
  rw[hq]at ht⊢
  rw[valLoop_ok hm (hf.len.symm.trans hd)]
  refine loop_sound hc hr l hs' _ _ he' (by rw[hl',List.length_append,List.length_take,hd];simp) ((hf.take r).push ?_) ht
  exact node_sound hc hr hsh hm (by rw[List.length_drop];omega) (hf.drop r) hk
theorem eval_sound {cols:List Col}{row:List Val}{zs:List Zone}{es:List Node}(hr:rowErr cols row=0)(ht:(typeS es cols zs).1=0):KdOk (typeS es cols zs).2/\Has (typeS es cols zs).2 (valLoop cols row zs [] es):=by
 rw[typeS]at ht⊢
 split at ht
 ·rename_i h;exact absurd ht h
 ·rename_i h
  rw[if_neg h]
  have h:checkErr es cols zs=0:=by omega
  obtain ⟨h1,h2,h3⟩:=check_parts h
  exact loop_sound h2 hr es [] [] [] (exprErr_loop h1).2 rfl trivial ht
theorem byteArray_eq {a b:ByteArray}(h:a.toList=b.toList):a=b:=by
 rw[ByteArray.toList_eq,ByteArray.toList_eq]at h
 obtain ⟨⟨a⟩⟩:=a
 obtain ⟨⟨b⟩⟩:=b
 simp at h
 rw[h]
theorem cmpInt_zero {a b:Int}:cmpInt a b=0↔a=b:=by rw[cmpInt];(repeat' split) <;> omega
theorem bytesLess_irrefl: ∀l:List UInt8,Op.bytesLess l l=false
 | []=>rfl
 |x :: l=>by simp[Op.bytesLess,bytesLess_irrefl l]
theorem cmpStr_zero {a b:ByteArray}:cmpStr a b=0↔a.toList=b.toList:=by
 rw[cmpStr]
 split
 ·rename_i h
  constructor
  ·intro q;omega
  ·intro q;rw[q,bytesLess_irrefl]at h;cases h
 ·split
  ·rename_i h;simp[h]
  ·rename_i h;simp[h]
theorem cmpVal_zero {a b:Val}:cmpVal a b=0↔a=b:=by
 obtain ⟨k,n,s⟩:=a
 obtain ⟨k',n',s'⟩:=b
 rw[cmpVal]
 simp only
 constructor
 ·intro h
  split at h
  ·contradiction
  ·rename_i h1
   split at h
   ·contradiction
   ·rename_i h2
    have e1:=cmpInt_zero.1 (Decidable.not_not.1 h1)
    have e2:=cmpInt_zero.1 (Decidable.not_not.1 h2)
    have e3:=byteArray_eq (cmpStr_zero.1 h)
    rw[e1,e2,e3]
 ·intro h
  injection h with h1 h2 h3
  subst h1 h2 h3
  rw[if_neg (by simp[cmpInt_zero]),if_neg (by simp[cmpInt_zero])]
  exact cmpStr_zero.2 rfl
structure Run (cols:List Col) (row:List Val) (zs:List Zone) (es:List Node) (k d:Nat) (hs:List Int) (ks:List Kd) (vs:List Val):Prop where
 ex:exprLoop hs (es.drop k)=0
 hl:hs.length=d
 vl:vs.length=d
 fit:Fit2 ks vs
 ty:(typeLoop cols zs ks (es.drop k)).1=0
 va:valLoop cols row zs [] es=valLoop cols row zs vs (es.drop k)
theorem Run.start {cols:List Col}{row:List Val}{zs:List Zone}{es:List Node}(ht:(typeS es cols zs).1=0):Run cols row zs es 0 0 [] [] []:=by
 rw[typeS]at ht
 split at ht
 ·rename_i h;exact absurd ht h
 ·rename_i h
  obtain ⟨h1,h2,h3⟩:=check_parts (by omega:checkErr es cols zs=0)
  exact ⟨(exprErr_loop h1).2,rfl,rfl,trivial,ht,rfl⟩
structure Step (cols:List Col) (row:List Val) (zs:List Zone) (es:List Node) (k r m:Nat) (x:Node) (vs:List Val):Prop where
 sh:shaped x=true
 ar:arity x.op x.arity=(m:Int)
 m8:m<=8
 n21:x.op≠21
 col:x.op=1->m=0/\0<=index cols x.name/\index cols x.name<cols.length
 val: ∀v∈vs.drop r,valid v=true
 bool:x.op=2->(∀v∈vs.drop r,v.kind≠0)-> ∀v∈vs.drop r,v.kind=1
 new:valid (nodeV cols row zs x (vs.drop r))=true
theorem Run.step {cols:List Col}{row:List Val}{zs:List Zone}{es:List Node}{k d:Nat}{hs:List Int}{ks:List Kd}{vs:List Val}(hc:colsErr cols=0)(hr:rowErr cols row=0)(h:Run cols row zs es k d hs ks vs){x:Node}(hx:es.drop k=x :: es.drop (k+1)):
  ∃m r hs' ks',d=r+m/\Step cols row zs es k r m x vs/\Run cols row zs es (k+1) (r+1) hs' ks' (vs.take r++[nodeV cols row zs x (vs.drop r)]):=by
 obtain ⟨he,hl,vl,hf,ht,hv⟩:=h
 rw[hx]at he ht hv
 obtain ⟨m,r,hs',hsh,hm,hm8,hd,hl',he'⟩:=exprLoop_inv he hl
 have hkl:ks.length=r+m:=by rw[hf.len,vl];exact hd
 obtain ⟨kd,hk,hq⟩:=typeLoop_inv hm hkl ht
 have hs:=node_sound hc hr hsh hm (by rw[List.length_drop];omega) (hf.drop r) hk
 refine ⟨m,r,hs',ks.take r++[kd],hd,⟨hsh,hm,hm8,?_,?_,(hf.drop r).valid,?_,hs.2.1⟩,⟨he',hl',?_,(hf.take r).push hs,by rw[<-hq];exact ht,?_⟩⟩
 ·intro h21
  rw[nodeKd,if_neg (by omega),if_pos h21]at hk
  injection hk with hk _
  omega
 ·intro h1
  rw[nodeKd,if_pos h1]at hk
  split at hk
  ·injection hk with hk _;omega
  ·rename_i hi
   obtain ⟨i,c,e1,e2,e3⟩:=col_at hi
   refine ⟨?_,by omega,by omega⟩
   rw[h1]at hm
   simp[arity]at hm
   omega
 ·intro h2 hn v hv
  have hm1:m=1:=by rw[h2]at hm;simp[arity]at hm;omega
  subst hm1
  obtain ⟨a,ha⟩:=list1 (show (ks.drop r).length=1 by rw[List.length_drop];omega)
  obtain ⟨b,hb⟩:=list1 (show (vs.drop r).length=1 by rw[List.length_drop];omega)
  have hff:=hf.drop r
  rw[ha,hb]at hff
  rw[hb]at hv
  simp at hv
  subst hv
  rw[ha,nodeKd,if_neg (by omega),if_neg (by omega),if_neg (by omega)]at hk
  split at hk
  ·injection hk with hk _;omega
  ·rename_i hq2
   simp[opKd,unKd,h2]at hq2
   refine (has_fits hff.1.1 hff.1.2 hq2).resolve_right ?_
   exact hn v (by rw[hb];simp)
 ·rw[List.length_append,List.length_take];simp;omega
 ·rw[hv,valLoop_ok hm (by rw[vl];exact hd)]
theorem Run.last {cols:List Col}{row:List Val}{zs:List Zone}{es:List Node}{k d:Nat}{hs:List Int}{ks:List Kd}{vs:List Val}(h:Run cols row zs es k d hs ks vs)(hx:es.drop k=[]):
  d=1/\ ∃v,vs=[v]/\valLoop cols row zs [] es=v:=by
 obtain ⟨he,hl,vl,hf,ht,hv⟩:=h
 rw[hx]at he hv
 have:=exprLoop_end he rfl
 obtain rfl:d=1:=by omega
 obtain ⟨v,rfl⟩:=list1 vl
 exact ⟨rfl,v,rfl,by rw[hv];rfl⟩
theorem Run.short {cols:List Col}{row:List Val}{zs:List Zone}{es:List Node}(ht:(typeS es cols zs).1=0):es.length<=256/\colsErr cols=0:=by
 rw[typeS]at ht
 split at ht
 ·rename_i h;exact absurd ht h
 ·rename_i h
  obtain ⟨h1,h2,h3⟩:=check_parts (by omega:checkErr es cols zs=0)
  exact ⟨(exprErr_loop h1).1,h2⟩
end Go.Proofs.YtggejcekmehocaaGreatDoor
