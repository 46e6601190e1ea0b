/-
  schema.Pick, warehouseref5.Pick: values by their numbers.
-/
import Derived.Test.YtopjjlmfilgngaaGreatDoorGai
import Derived.Test.YtopjjlmfilgngaaGreatDoorGaq
import Derived.Test.YtopjjlmfilgngaaGreatDoorGao
namespace Go.Proofs.YtopjjlmfilgngaaGreatDoor
set_option maxHeartbeats 4000000
set_option maxRecDepth 100000
open Go.RowKit
set_option linter.unusedSimpArgs false
set_option linter.unusedVariables false
def zeroV:Val:=⟨0,0,⟨#[]⟩⟩
def gX (row:List Val)(ks:List Int):List Val:=ks.map λ(k:Int)=>if 0<=k/\k<(row.length:Int) then row.getD k.toNat zeroV else zeroV
theorem qC (v:Val):v.cells.length=3:=rfl
theorem Cm (v:Val): ∀(xs:List Val) (i:Nat),i<xs.length->(xs.set i v).flatMap Val.cells=(((xs.flatMap Val.cells).set (i*3) (.int .i64 v.kind)).set (i*3+1) (.int .i64 v.num)).set (i*3+2) (.string v.str)
 | [],i,h=>absurd h (by simp)
 |x :: xs,0,_=>by simp[Val.cells]
 |x :: xs,i+1,h=>by
  have ih:=Cm v xs i (by simpa using h);rw[List.set_cons_succ,List.flatMap_cons,ih,List.flatMap_cons];simp only[Val.cells,List.cons_append,List.nil_append];rw[show (i+1)*3=i*3+1+1+1 from by omega,show i*3+1+1+1+1=i*3+1+1+1+1 from rfl];simp only[List.set_cons_succ]
theorem lC: ∀{xs:List Val} {w:World} {S:Nat->Prop} {cs:List Value},Cells w S cs xs↔cs=xs.flatMap Val.cells/\ ∀x∈xs,x.ok
 | [],w,S,cs=>by
  constructor
  ·intro h;exact ⟨h,by simp⟩
  ·intro h;exact h.1
 |x :: xs,w,S,cs=>by
  constructor
  ·rintro ⟨c0,c1,rfl,⟨rfl,h0⟩,h1⟩;obtain ⟨rfl,h2⟩:=lC.1 h1;exact ⟨rfl,λy hy=>by
    rcases List.mem_cons.1 hy with rfl|hy
    ·exact h0
    ·exact h2 y hy⟩
  ·rintro ⟨rfl,h⟩;exact ⟨_,_,rfl,⟨rfl,h x (by simp)⟩,lC.2 ⟨rfl,λy hy=>h y (by simp[hy])⟩⟩
theorem OL.set3 {B:Nat}{O:Nat->Prop}{T:List TypeId}{w:World}{g n c:Nat}{xs:List Val}(h:OL 36 B O T w (.slice (some ⟨g,0,none⟩) n c) xs)(hl:xs.length=n){i:Nat}(hi:i<n){v:Val}(hv:v.ok):
  OL 36 B O T (((w.setCell ⟨g,i*3,none⟩ (.int .i64 v.kind)).setCell ⟨g,i*3+1,none⟩ (.int .i64 v.num)).setCell ⟨g,i*3+2,none⟩ (.string v.str)) (.slice (some ⟨g,0,none⟩) n c) (xs.set i v):=by
 obtain ⟨cs,h1,h2⟩:=h.own;obtain ⟨rfl,hok⟩:=lC.1 h2;rcases h1.2 with ⟨e,_⟩|⟨g',cap,cur,e,hb,hh,r1,r2,r3,r4⟩
 ·cases e
 ·injection e with e1 e2 e3;injection e1 with e1;injection e1 with e1;subst e1 e3;have hh3:(((w.setCell ⟨g,i*3,none⟩ (.int .i64 v.kind)).setCell ⟨g,i*3+1,none⟩ (.int .i64 v.num)).setCell ⟨g,i*3+2,none⟩ (.string v.str)).heap[g]?=some (.cells (((cur.setIfInBounds (i*3) (.int .i64 v.kind)).setIfInBounds (i*3+1) (.int .i64 v.num)).setIfInBounds (i*3+2) (.string v.str)) 36 (0,0)):=by
   simp[World.setCell,Array.getElem?_modify,hh]
  refine ⟨⟨(xs.set i v).flatMap Val.cells,⟨?_,.inr ⟨g,c,_,by rw[List.length_set,hl],hb,hh3,by rw[List.length_set];exact r1,r2,by simpa using r3,?_⟩⟩,lC.2 ⟨rfl,λy hy=>?_⟩⟩,by simpa[World.setCell] using h.base⟩
  ·rw[su qC];rfl
  ·rw[List.length_set,Cm v xs i (by omega),<-r4];simp only[Array.toList_setIfInBounds,List.take_set]
  ·rcases List.mem_or_eq_of_mem_set hy with hy|rfl
   ·exact hok y hy
   ·exact hv
theorem WU: ∀(n:Nat),(madeCells #[.int .i64 0,.int .i64 0,.string ⟨#[]⟩] (n*3)).toList=(List.replicate n (⟨0,0,⟨#[]⟩⟩:Val)).flatMap Val.cells:=by
 intro n;apply List.ext_getElem?;intro t;by_cases ht:t<n*3
 ·have h1:t / 3<n:=by omega
  have h4:=Ck qC (List.replicate n (⟨0,0,⟨#[]⟩⟩:Val)) (t / 3) (t % 3) (by simpa using h1) (by omega);rw[show t / 3*3+t % 3=t from by omega]at h4;rw[h4];rw[Array.getElem?_toList];simp only[madeCells,Array.getElem?_map,List.getElem_replicate];rw[Array.getElem?_eq_getElem (by simpa using ht)];simp only[Array.getElem_range,Option.map_some,Val.cells];have h5:t % 3=0\/t % 3=1\/t % 3=2:=by omega
  have h6:(#[Value.int .i64 0,Value.int .i64 0,Value.string ⟨#[]⟩]:Array Value).size=3:=rfl;rw[h6];rcases h5 with h5|h5|h5 <;> rw[h5] <;> rfl
 ·rw[List.getElem?_eq_none (by simp[size_madeCells];omega),List.getElem?_eq_none (by rw[su qC];simp;omega)]
theorem OL.zeros {B:Nat}{O:Nat->Prop}{T:List TypeId}{w:World}{n:Nat}(hB:B<=w.heap.size)(hm:n<=maxLen):
  OL (α:=Val) 36 B O T (w.alloc (.cells (madeCells #[.int .i64 0,.int .i64 0,.string ⟨#[]⟩] (n*3)) 36)) (.slice (some ⟨w.heap.size,0,none⟩) n n) (List.replicate n ⟨0,0,⟨#[]⟩⟩):=by
 refine ⟨⟨(List.replicate n (⟨0,0,⟨#[]⟩⟩:Val)).flatMap Val.cells,⟨by rw[su qC];rfl,.inr ⟨w.heap.size,n,_,by rw[List.length_replicate],hB,heap_alloc_new w _,by simp,hm,size_madeCells _ _,?_⟩⟩,lC.2 ⟨rfl,λx hx=>?_⟩⟩,Nat.le_trans hB (ae (o:=.cells _ _)).size⟩
 ·rw[<-WU,List.length_replicate,List.take_of_length_le];rw[Array.length_toList,size_madeCells];exact Nat.le_refl _
 ·rw[(List.mem_replicate.1 hx).2];exact ⟨⟨by decide,by decide⟩,⟨by decide,by decide⟩,by show (0:Nat)<=_;omega⟩
theorem zQ {row:List Val}{ks:List Int}{k:Nat}{x:Int}{l:List Int}(h:ks.drop k=x :: l):gX row (ks.take (k+1))=gX row (ks.take k)++[if 0<=x/\x<(row.length:Int) then row.getD x.toNat zeroV else zeroV]:=by
 rw[bg h,gX,List.map_append];rfl
theorem E8 {row:List Val}{ks:List Int}{k m:Nat}{x:Int}{l:List Int}(h:ks.drop k=x :: l)(hk:k<m)(hl:ks.length=m)(y:Val)(hy:y=if 0<=x/\x<(row.length:Int) then row.getD x.toNat zeroV else zeroV):
  (gX row (ks.take k)++List.replicate (m-k) zeroV).set k y=gX row (ks.take (k+1))++List.replicate (m-(k+1)) zeroV:=by
 have h1:(gX row (ks.take k)).length=k:=by rw[gX,List.length_map,List.length_take];omega
 rw[zQ h,<-hy,show m-k=(m-(k+1))+1 from by omega,List.replicate_succ,List.append_assoc];rw[List.set_append_right _ _ (by omega),h1,Nat.sub_self];rfl
theorem sj {row:List Val}{ks:List Int}{k m:Nat}{x:Int}{l:List Int}(h:ks.drop k=x :: l)(hk:k<m)(hx:¬(0<=x/\x<(row.length:Int))):
  gX row (ks.take k)++List.replicate (m-k) zeroV=gX row (ks.take (k+1))++List.replicate (m-(k+1)) zeroV:=by
 rw[zQ h,if_neg hx,show m-k=(m-(k+1))+1 from by omega,List.replicate_succ,List.append_assoc];rfl
theorem OL.fz {α:Type}[Rep α]{e:TypeId}{B:Nat}{O:Nat->Prop}{T:List TypeId}{w:World}{g n c:Nat}{xs:List α}(h:OL e B O T w (.slice (some ⟨g,0,none⟩) n c) xs)(o:Nat):w.frozen? ⟨g,o,none⟩=false:=by
 obtain ⟨c',hc⟩:=(h.ty (g:=g) rfl).2;exact frozen_of_row w g o c' e hc
theorem OL.cellV {B:Nat}{O:Nat->Prop}{T:List TypeId}{w:World}{g n c:Nat}{xs:List Val}(h:OL 36 B O T w (.slice (some ⟨g,0,none⟩) n c) xs)(hl:xs.length=n){i:Nat}(hi:i<n): ∃u0 u1 u2,w.cell? ⟨g,i*3,none⟩=some u0/\w.cell? ⟨g,i*3+1,none⟩=some u1/\w.cell? ⟨g,i*3+2,none⟩=some u2:=by
 obtain ⟨cs,h1,h2⟩:=h.own;rcases h1.2 with ⟨e,_⟩|⟨g',cap,cur,e,hb,hh,r1,r2,r3,r4⟩
 ·cases e
 ·injection e with e1 e2 e3;injection e1 with e1;injection e1 with e1;subst e1 e3;have hm:n*3<=cur.size:=by
   have r3':cur.size=c*3:=r3;rw[r3'];exact Nat.mul_le_mul_right 3 (by omega)
  refine ⟨cur[i*3]'(by omega),cur[i*3+1]'(by omega),cur[i*3+2]'(by omega),?_,?_,?_⟩;all_goals rw[cell_of_row w g _ cur _ (0,0) hh,Array.getElem?_eq_getElem (by omega)]
theorem Ox (w:World)(A:Option Addr)(n c:Nat)(row:List Val)(hx:In w A n c row)(A2:Option Addr)(n2 c2:Nat)(ks:List Int)(hy:In w A2 n2 c2 ks)(hn:n2<=4096):
  Calls Tryz.prog 141 #[.slice A n c,.slice A2 n2 c2] w
   λe w'=>(∃A' c',e=.returned (.slice A' n2 c')/\OL 36 w.heap.size (λ_=>False) [] w' (.slice A' n2 c') (gX row ks))/\Below w.heap.size w w':=by
 obtain ⟨i0,hi,hz0,hz1,hz2⟩:=info_parts lL;have HX:=hide hx;have HY:=hide hy;have h63:=hx.le;have h64:=hy.le;clear hx hy;have hmk: ∀W,(Instr.makeSlice 23 (.int .i64 (n2:Int)) (.int .i64 (n2:Int))).run Tryz.prog W=.ok (.slice (some ⟨W.heap.size,0,none⟩) n2 n2) (W.alloc (.cells (madeCells (Value.agg #[.int .i64 0,.int .i64 0,.string ⟨#[]⟩]).cells (n2*3)) 36)):=λW=>by
  have h:=tK (P:=Tryz.prog) 23 36 i0 _ Tryz.underlying23 hi hz0 .i64 .i64 n2 n2 (Nat.le_refl _) (by rw[hz2];omega) (by omega) W;rw[hz1]at h;exact h
 have Gy:Hid (OL 36 w.heap.size (λ_=>False) [] (w.alloc (.cells (madeCells #[.int .i64 0,.int .i64 0,.string ⟨#[]⟩] (n2*3)) 36)) (.slice (some ⟨w.heap.size,0,none⟩) n2 n2) (List.replicate n2 zeroV)):=hide (OL.zeros (Nat.le_refl _) (by simp only[maxLen];omega));go_enter Tryz.func141,Tryz.ntmps141;go_wp2;go_loopw [13] (λi wr=> ∃k:Nat,k<=n2/\i=.int .i64 k/\OL 36 w.heap.size (λ_=>False) [] wr (.slice (some ⟨w.heap.size,0,none⟩) n2 n2) (gX row (ks.take k)++List.replicate (n2-k) zeroV)/\Below w.heap.size w wr) (λi _=>n2-(RowKit.intOf i).toNat)
 case atStart=>exact ⟨0,Nat.zero_le _,rfl,by simpa[gX] using Gy.out,ae⟩
 case round=>
  clear hmk Gy;obtain ⟨k,hk,rfl,ho,hb⟩:=hrel;have HO:=hide ho;have HB:=hide hb;clear ho hb;by_cases hlt:k<n2
  ·obtain ⟨b,off,x,rfl,hBb,HS,e0,e1⟩:=(HY.out.below HB.out).int hlt;have k0:(0:Int)<=(k:Int):=by omega
   have k1:(k:Int)<(n2:Int):=by omega
   by_cases h0:0<=x
   ·by_cases h1:x<(n:Int)
    ·obtain ⟨b',off',y,rfl,ZH,HV,f0,f1,f2,f3⟩:=(HX.out.below HB.out).val (k:=x.toNat) (by omega);have hln:(gX row (ks.take k)++List.replicate (n2-k) zeroV).length=n2:=by
      rw[List.length_append,gX,List.length_map,List.length_take,List.length_replicate,HY.out.len];omega
     obtain ⟨u0,u1,u2,c0,c1,c2⟩:=HO.out.cellV hln hlt;have z0:=HO.out.fz (k*3);have z1:=HO.out.fz (k*3+1);have z2:=HO.out.fz (k*3+2);have Sv:=hide (HO.out.set3 hln hlt f3);have hfs:=E8 (row:=row) HS.out hlt HY.out.len y (by
      rw[if_pos ⟨h0,by rw[HX.out.len];exact h1⟩];have:=(bX HV.out).1;rw[List.getD_eq_getElem?_getD,this];rfl)
     rw[hfs]at Sv;have Be:=hide (((HB.out.setCell (p:=⟨w.heap.size,k*3,none⟩) (Nat.le_refl _) (.int .i64 y.kind)).setCell (p:=⟨w.heap.size,k*3+1,none⟩) (Nat.le_refl _) (.int .i64 y.num)).setCell (p:=⟨w.heap.size,k*3+2,none⟩) (Nat.le_refl _) (.string y.str));clear hln hfs;go_wp2;go_roundw
     case rel=>exact ⟨k+1,by omega,by go_num,by first|exact Sv.out|exact Sv.out.below (bY (Below.refl _ _)),by first|exact Be.out|exact bY Be.out⟩
     case measure=>simp[RowKit.intOf];omega
    ·have mq:=HO.out;rw[sj (row:=row) HS.out hlt (by rw[HX.out.len];omega)]at mq;have mq:=hide mq;go_wp2
     (try go_quiet (fail))
     (try go_wp2);go_roundw
     case rel=>exact ⟨k+1,by omega,by go_num,by first|exact mq.out|exact mq.out.below (bY (Below.refl _ _)),by first|exact HB.out|exact bY HB.out⟩
     case measure=>simp[RowKit.intOf];omega
   ·have mq:=HO.out;rw[sj (row:=row) HS.out hlt (by omega)]at mq;have mq:=hide mq;go_wp2
    (try go_quiet (fail))
    (try go_wp2);go_roundw
    case rel=>exact ⟨k+1,by omega,by go_num,by first|exact mq.out|exact mq.out.below (bY (Below.refl _ _)),by first|exact HB.out|exact bY HB.out⟩
    case measure=>simp[RowKit.intOf];omega
  ·have mq:=HO.out;rw[show n2-k=0 from by omega,List.replicate_zero,List.append_nil,List.take_of_length_le (by rw[HY.out.len];omega)]at mq;have mq:=hide mq;go_wp2;go_ret;exact ⟨⟨_,_,rfl,mq.out⟩,HB.out⟩
theorem Ov (w:World)(A:Option Addr)(n c:Nat)(row:List Val)(hx:In w A n c row)(A2:Option Addr)(n2 c2:Nat)(ks:List Int)(hy:In w A2 n2 c2 ks)(hn:n2<=4096):
  Calls Tryz.prog 109 #[.slice A n c,.slice A2 n2 c2] w
   λe w'=>(∃A' c',e=.returned (.slice A' n2 c')/\OL 36 w.heap.size (λ_=>False) [] w' (.slice A' n2 c') (gX row ks))/\Below w.heap.size w w':=by
 go_enter Tryz.func109,Tryz.ntmps109;go_wp2_with fail;refine (Ox _ A n c row (by exact hx) A2 n2 c2 ks (by exact hy) hn).mono ?_;rintro e w1 ⟨⟨A',c',rfl,ho⟩,hb⟩;have HO:=hide ho;have HB:=hide hb;clear ho hb;go_wp2;go_ret;exact ⟨⟨A',c',rfl,HO.out⟩,HB.out⟩
theorem Ow (w:World)(A:Option Addr)(n c:Nat)(row:List Val)(hx:In w A n c row)(A2:Option Addr)(n2 c2:Nat)(ks:List Int)(hy:In w A2 n2 c2 ks)(hn:n2<=4096):
  Calls Tryz.prog 96 #[.slice A n c,.slice A2 n2 c2] w
   λe w'=>(∃A' c',e=.returned (.slice A' n2 c')/\OL 36 w.heap.size (λ_=>False) [] w' (.slice A' n2 c') (gX row ks))/\Below w.heap.size w w':=by
 obtain ⟨i0,hi,hz0,hz1,hz2⟩:=info_parts lL;have HX:=hide hx;have HY:=hide hy;have h63:=hx.le;have h64:=hy.le;clear hx hy;have hmk: ∀W,(Instr.makeSlice 23 (.int .i64 (n2:Int)) (.int .i64 (n2:Int))).run Tryz.prog W=.ok (.slice (some ⟨W.heap.size,0,none⟩) n2 n2) (W.alloc (.cells (madeCells (Value.agg #[.int .i64 0,.int .i64 0,.string ⟨#[]⟩]).cells (n2*3)) 36)):=λW=>by
  have h:=tK (P:=Tryz.prog) 23 36 i0 _ Tryz.underlying23 hi hz0 .i64 .i64 n2 n2 (Nat.le_refl _) (by rw[hz2];omega) (by omega) W;rw[hz1]at h;exact h
 have Gy:Hid (OL 36 w.heap.size (λ_=>False) [] (w.alloc (.cells (madeCells #[.int .i64 0,.int .i64 0,.string ⟨#[]⟩] (n2*3)) 36)) (.slice (some ⟨w.heap.size,0,none⟩) n2 n2) (List.replicate n2 zeroV)):=hide (OL.zeros (Nat.le_refl _) (by simp only[maxLen];omega));go_enter Tryz.func96,Tryz.ntmps96;go_wp2;go_loopw [6] (λi wr=> ∃k:Nat,k<=n2/\i=.int .i64 k/\OL 36 w.heap.size (λ_=>False) [] wr (.slice (some ⟨w.heap.size,0,none⟩) n2 n2) (gX row (ks.take k)++List.replicate (n2-k) zeroV)/\Below w.heap.size w wr) (λi _=>n2-(RowKit.intOf i).toNat)
 case atStart=>exact ⟨0,Nat.zero_le _,rfl,by simpa[gX] using Gy.out,ae⟩
 case round=>
  clear hmk Gy;obtain ⟨k,hk,rfl,ho,hb⟩:=hrel;have HO:=hide ho;have HB:=hide hb;clear ho hb;by_cases hlt:k<n2
  ·obtain ⟨b,off,x,rfl,hBb,HS,e0,e1⟩:=(HY.out.below HB.out).int hlt;have k0:(0:Int)<=(k:Int):=by omega
   have k1:(k:Int)<(n2:Int):=by omega
   by_cases h0:0<=x
   ·by_cases h1:x<(n:Int)
    ·obtain ⟨b',off',y,rfl,ZH,HV,f0,f1,f2,f3⟩:=(HX.out.below HB.out).val (k:=x.toNat) (by omega);have hln:(gX row (ks.take k)++List.replicate (n2-k) zeroV).length=n2:=by
      rw[List.length_append,gX,List.length_map,List.length_take,List.length_replicate,HY.out.len];omega
     obtain ⟨u0,u1,u2,c0,c1,c2⟩:=HO.out.cellV hln hlt;have z0:=HO.out.fz (k*3);have z1:=HO.out.fz (k*3+1);have z2:=HO.out.fz (k*3+2);have Sv:=hide (HO.out.set3 hln hlt f3);have hfs:=E8 (row:=row) HS.out hlt HY.out.len y (by
      rw[if_pos ⟨h0,by rw[HX.out.len];exact h1⟩];have:=(bX HV.out).1;rw[List.getD_eq_getElem?_getD,this];rfl)
     rw[hfs]at Sv;have Be:=hide (((HB.out.setCell (p:=⟨w.heap.size,k*3,none⟩) (Nat.le_refl _) (.int .i64 y.kind)).setCell (p:=⟨w.heap.size,k*3+1,none⟩) (Nat.le_refl _) (.int .i64 y.num)).setCell (p:=⟨w.heap.size,k*3+2,none⟩) (Nat.le_refl _) (.string y.str));clear hln hfs;go_wp2;go_roundw
     case rel=>exact ⟨k+1,by omega,by go_num,by first|exact Sv.out|exact Sv.out.below (bY (Below.refl _ _)),by first|exact Be.out|exact bY Be.out⟩
     case measure=>simp[RowKit.intOf];omega
    ·have mq:=HO.out;rw[sj (row:=row) HS.out hlt (by rw[HX.out.len];omega)]at mq;have mq:=hide mq;go_wp2
     (try go_quiet (fail))
     (try go_wp2);go_roundw
     case rel=>exact ⟨k+1,by omega,by go_num,by first|exact mq.out|exact mq.out.below (bY (Below.refl _ _)),by first|exact HB.out|exact bY HB.out⟩
     case measure=>simp[RowKit.intOf];omega
   ·have mq:=HO.out;rw[sj (row:=row) HS.out hlt (by omega)]at mq;have mq:=hide mq;go_wp2
    (try go_quiet (fail))
    (try go_wp2);go_roundw
    case rel=>exact ⟨k+1,by omega,by go_num,by first|exact mq.out|exact mq.out.below (bY (Below.refl _ _)),by first|exact HB.out|exact bY HB.out⟩
    case measure=>simp[RowKit.intOf];omega
  ·have mq:=HO.out;rw[show n2-k=0 from by omega,List.replicate_zero,List.append_nil,List.take_of_length_le (by rw[HY.out.len];omega)]at mq;have mq:=hide mq;go_wp2;go_ret;exact ⟨⟨_,_,rfl,mq.out⟩,HB.out⟩
end Go.Proofs.YtopjjlmfilgngaaGreatDoor
