/-
  Worlds that only grew: draws and new blocks behind (what a comparison inside a sort may leave); value.Compare, slices.CompareFunc and value.CompareRows leave no more; the closure of bag.sum. slices.SortFunc at a row of the call's own, of any element: the row holds a sorted permutation of what it held. No program is in sight. bag.sum: slices.Clone of entries, slices.SortFunc with bag.sum's closure, the loops; bag.Normalize. (The laying is what the kit's lay-plain.mjs wrote, numbers turned to names.) bag.Normalize; partition.Join. schema.Pick, warehouseref5.Pick: values by their numbers.
-/
import Derived.Shelf.SlSortCmp.WholeK
import Derived.Shelf.SlSortCmp.NoneTotal
import Derived.Test.YtggejcekmehocaaGreatDoorGad
import Derived.Test.YtggejcekmehocaaGreatDoorGae
import Derived.Test.YtggejcekmehocaaGreatDoorGaa
import Derived.Test.YtggejcekmehocaaGreatDoorGam
import Derived.Test.YtggejcekmehocaaGreatDoorGah
import Derived.Test.YtggejcekmehocaaGreatDoorGap
import Derived.Test.YtggejcekmehocaaGreatDoorGal
namespace Go.Proofs.YtggejcekmehocaaGreatDoor
set_option maxHeartbeats 4000000
set_option maxRecDepth 100000
set_option linter.unusedVariables false
set_option linter.unusedSimpArgs false
open Go.RowKit
def Gr (w w':World):Prop:= ∃q os,w'=Sort.grow (w.drewN q) os
theorem Gr.refl (w:World):Gr w w:=⟨0,#[],by simp[Sort.grow_empty,World.drewN_zero]⟩
theorem Gy (w:World)(os:Array Obj)(n:Nat):(Sort.grow w os).drewN n=Sort.grow (w.drewN n) os:=rfl
theorem Gr.trans {a b c:World}(h:Gr a b)(h':Gr b c):Gr a c:=by
 obtain ⟨q,os,rfl⟩:=h;obtain ⟨q',os',rfl⟩:=h';exact ⟨q+q',os++os',by rw[Gy,World.drewN_drewN,Sort.grow_grow]⟩
theorem LV (w:World)(o:Obj):Gr w (w.alloc o):=⟨0,#[o],by rw[World.drewN_zero,Sort.alloc_eq_grow]⟩
theorem Em (w:World)(n:Nat):Gr w (w.drewN n):=⟨n,#[],by simp[Sort.grow_empty]⟩
theorem O7 (w:World):Gr w w.drew:=Em w 1
theorem Gr.alloc {a b:World}(h:Gr a b)(o:Obj):Gr a (b.alloc o):=h.trans (LV _ _)
theorem Gr.drew {a b:World}(h:Gr a b):Gr a b.drew:=h.trans (O7 _)
theorem Gr.drewN {a b:World}(h:Gr a b)(n:Nat):Gr a (b.drewN n):=h.trans (Em _ _)
theorem Gr.below {a b:World}(h:Gr a b):Below a.heap.size a b:=by
 obtain ⟨q,os,rfl⟩:=h;exact ⟨rfl,rfl,rfl,by rw[Sort.size_grow];exact Nat.le_add_right _ _,λi hi=>Sort.heap_grow_old _ _ hi⟩
theorem BC {β:Type}{enc:β->List Value}{k:Nat}(hk: ∀x,(enc x).length=k): ∀(l:List β) (i j:Nat) (hi:i<l.length),j<k->(l.flatMap enc)[i*k+j]?=(enc l[i])[j]?
 | [],i,j,hi,_=>absurd hi (by simp)
 |x :: l,0,j,_,hj=>by
  rw[List.flatMap_cons,Nat.zero_mul,Nat.zero_add,List.getElem?_append_left (by rw[hk];exact hj)];rfl
 |x :: l,i+1,j,hi,hj=>by
  rw[List.flatMap_cons,List.getElem?_append_right (by rw[hk,Nat.add_mul];omega),hk,show (i+1)*k+j-k=i*k+j from by rw[Nat.add_mul];omega];exact BC hk l i j (by simpa using hi) hj
theorem sQ {β:Type}{enc:β->List Value}{k:Nat}(hk: ∀x,(enc x).length=k): ∀(l:List β),(l.flatMap enc).length=l.length*k
 | []=>by simp
 |x :: l=>by rw[List.flatMap_cons,List.length_append,hk,sQ hk l,List.length_cons,Nat.add_mul];omega
section
variable {P:Program}{ρ:Shelf.Ren}
end
open Go.RowKit Go.Shelf
theorem Gl (w:World)(A:Option Addr)(n c:Nat)(xs:List Ent)(hx:In w A n c xs)(hn:n<=1048576):
  Calls Tryz.prog 71 #[.slice A n c] w λe w'=>(∃A' c',e=.returned (.slice A' n c')/\OL 61 w.heap.size (λ_=>True) [] w' (.slice A' n c') xs)/\Below w.heap.size w w':=by
 have kn:=λ(W:World) (a:Option Addr) (l c:Nat)=>Lib.run_eql_slice_nil (P:=Tryz.prog) W 30 61 a l c 0 0 Tryz.underlying30;have hlen:=hx.len;cases A with
 |none=>
  have h0:c=0:=hx.2.2.2.1 rfl;have h1:n=0:=by have:=hx.2.1;omega
  subst h0 h1;have he:xs=[]:=List.eq_nil_of_length_eq_zero hx.1;subst he;clear hlen;go_enter Tryz.func71,Tryz.ntmps71;go_wp2;go_ret;exact ⟨⟨_,_,rfl,OL.nil (Nat.le_refl _)⟩,Below.refl _ _⟩
 |some ad=>
  have hb0:Below w.heap.size w (w.alloc (.cells #[] 61)):=ae;obtain ⟨cs,HC,HS⟩:=Sl.cells hx;have HC:=hide ((HC.keep (Same.below hb0)).mono λk hk=>(show BS w.heap.size (λ_=>True) [] (w.alloc (.cells #[] 61)) k from .inl ⟨trivial,hk⟩));have HO:Hid (OL (α:=Ent) 61 w.heap.size (λ_=>True) [] (w.alloc (.cells #[] 61)) (.slice (some ⟨w.heap.size,0,none⟩) 0 0) []):=hide ⟨⟨[],World.ownsRow_made w #[] 0 (Nat.le_refl _) (by decide) rfl,rfl⟩,hb0.size⟩;have W9:Hid (Src (w.alloc (.cells #[] 61)) 2 (some ad) n cs):=hide ⟨HS.1,λh=>by
   obtain ⟨b,off,e,hj⟩:=HS.2 h;exact ⟨b,off,e,λj u hu=>by
    have hc:=hj j u hu;exact bat hb0 (lt_of_cell hc) hc⟩⟩
  have HL:=hide hlen;clear hlen;go_enter Tryz.func71,Tryz.ntmps71;go_wp2_with (at_builtin;refine lC _ rfl _ _ _ rfl fD (by simp) HO.out rfl (some ad) n c cs xs rfl (λh=>by cases h) W9.out HC.out HL.out (by simp only[maxLen,List.length_nil];omega) (by simp only[List.length_nil];omega) ?_;intro v1 w3 ho3 hb3 hg3 Jp);go_ret;obtain ⟨A9,c9,e9⟩:=ho3.form;have q9:=hide ho3;clear ho3;subst e9;rw[List.nil_append]at q9;rw[List.nil_append,HL.out]at*;exact ⟨⟨_,_,rfl,q9.out⟩,hb0.trans hb3⟩
theorem SrcAt.alloc {w:World}{o:Obj}{size n:Nat}{A:Option Addr}{cs:List Value}(h:Src w size A n cs):Src (w.alloc o) size A n cs:=⟨h.1,λh0=>by
 obtain ⟨b',o',e,hc⟩:=h.2 h0;exact ⟨b',o',e,λj u hu=>bat ae (lt_of_cell (hc j u hu)) (hc j u hu)⟩⟩
def zeroV:Val:=⟨0,0,⟨#[]⟩⟩
def fV (row:List Val)(ks:List Int):List Val:=ks.map λ(k:Int)=>if 0<=k/\k<(row.length:Int) then row.getD k.toNat zeroV else zeroV
theorem qQ (v:Val):v.cells.length=3:=rfl
theorem BD (v:Val): ∀(xs:List Val) (i:Nat),i<xs.length->(xs.set i v).flatMap Val.cells=(((xs.flatMap Val.cells).set (i*3) (.int .i64 v.kind)).set (i*3+1) (.int .i64 v.num)).set (i*3+2) (.string v.str)
 | [],i,h=>absurd h (by simp)
 |x :: xs,0,_=>by simp[Val.cells]
 |x :: xs,i+1,h=>by
  have ih:=BD v xs i (by simpa using h);rw[List.set_cons_succ,List.flatMap_cons,ih,List.flatMap_cons];simp only[Val.cells,List.cons_append,List.nil_append];rw[show (i+1)*3=i*3+1+1+1 from by omega,show i*3+1+1+1+1=i*3+1+1+1+1 from rfl];simp only[List.set_cons_succ]
theorem lK: ∀{xs:List Val} {w:World} {S:Nat->Prop} {cs:List Value},Cells w S cs xs↔cs=xs.flatMap Val.cells/\ ∀x∈xs,x.ok
 | [],w,S,cs=>by
  constructor
  ·intro h;exact ⟨h,by simp⟩
  ·intro h;exact h.1
 |x :: xs,w,S,cs=>by
  constructor
  ·rintro ⟨c0,c1,rfl,⟨rfl,h0⟩,h1⟩;obtain ⟨rfl,h2⟩:=lK.1 h1;exact ⟨rfl,λy hy=>by
    rcases List.mem_cons.1 hy with rfl|hy
    ·exact h0
    ·exact h2 y hy⟩
  ·rintro ⟨rfl,h⟩;exact ⟨_,_,rfl,⟨rfl,h x (by simp)⟩,lK.2 ⟨rfl,λy hy=>h y (by simp[hy])⟩⟩
theorem OL.set3 {B:Nat}{O:Nat->Prop}{T:List TypeId}{w:World}{g n c:Nat}{xs:List Val}(h:OL 74 B O T w (.slice (some ⟨g,0,none⟩) n c) xs)(hl:xs.length=n){i:Nat}(hi:i<n){v:Val}(hv:v.ok):
  OL 74 B O T (((w.setCell ⟨g,i*3,none⟩ (.int .i64 v.kind)).setCell ⟨g,i*3+1,none⟩ (.int .i64 v.num)).setCell ⟨g,i*3+2,none⟩ (.string v.str)) (.slice (some ⟨g,0,none⟩) n c) (xs.set i v):=by
 obtain ⟨cs,h1,h2⟩:=h.own;obtain ⟨rfl,hok⟩:=lK.1 h2;rcases h1.2 with ⟨e,_⟩|⟨g',cap,cur,e,hb,hh,r1,r2,r3,r4⟩
 ·cases e
 ·injection e with e1 e2 e3;injection e1 with e1;injection e1 with e1;subst e1 e3;have hh3:(((w.setCell ⟨g,i*3,none⟩ (.int .i64 v.kind)).setCell ⟨g,i*3+1,none⟩ (.int .i64 v.num)).setCell ⟨g,i*3+2,none⟩ (.string v.str)).heap[g]?=some (.cells (((cur.setIfInBounds (i*3) (.int .i64 v.kind)).setIfInBounds (i*3+1) (.int .i64 v.num)).setIfInBounds (i*3+2) (.string v.str)) 74 (0,0)):=by
   simp[World.setCell,Array.getElem?_modify,hh]
  refine ⟨⟨(xs.set i v).flatMap Val.cells,⟨?_,.inr ⟨g,c,_,by rw[List.length_set,hl],hb,hh3,by rw[List.length_set];exact r1,r2,by simpa using r3,?_⟩⟩,lK.2 ⟨rfl,λy hy=>?_⟩⟩,by simpa[World.setCell] using h.base⟩
  ·rw[sQ qQ];rfl
  ·rw[List.length_set,BD v xs i (by omega),<-r4];simp only[Array.toList_setIfInBounds,List.take_set]
  ·rcases List.mem_or_eq_of_mem_set hy with hy|rfl
   ·exact hok y hy
   ·exact hv
theorem UY: ∀(n:Nat),(madeCells #[.int .i64 0,.int .i64 0,.string ⟨#[]⟩] (n*3)).toList=(List.replicate n (⟨0,0,⟨#[]⟩⟩:Val)).flatMap Val.cells:=by
 intro n;apply List.ext_getElem?;intro t;by_cases ht:t<n*3
 ·have h1:t / 3<n:=by omega
  have h4:=BC qQ (List.replicate n (⟨0,0,⟨#[]⟩⟩:Val)) (t / 3) (t % 3) (by simpa using h1) (by omega);rw[show t / 3*3+t % 3=t from by omega]at h4;rw[h4];rw[Array.getElem?_toList];simp only[madeCells,Array.getElem?_map,List.getElem_replicate];rw[Array.getElem?_eq_getElem (by simpa using ht)];simp only[Array.getElem_range,Option.map_some,Val.cells];have h5:t % 3=0\/t % 3=1\/t % 3=2:=by omega
  have h6:(#[Value.int .i64 0,Value.int .i64 0,Value.string ⟨#[]⟩]:Array Value).size=3:=rfl;rw[h6];rcases h5 with h5|h5|h5 <;> rw[h5] <;> rfl
 ·rw[List.getElem?_eq_none (by simp[size_madeCells];omega),List.getElem?_eq_none (by rw[sQ qQ];simp;omega)]
theorem OL.zeros {B:Nat}{O:Nat->Prop}{T:List TypeId}{w:World}{n:Nat}(hB:B<=w.heap.size)(hm:n<=maxLen):
  OL (α:=Val) 74 B O T (w.alloc (.cells (madeCells #[.int .i64 0,.int .i64 0,.string ⟨#[]⟩] (n*3)) 74)) (.slice (some ⟨w.heap.size,0,none⟩) n n) (List.replicate n ⟨0,0,⟨#[]⟩⟩):=by
 refine ⟨⟨(List.replicate n (⟨0,0,⟨#[]⟩⟩:Val)).flatMap Val.cells,⟨by rw[sQ qQ];rfl,.inr ⟨w.heap.size,n,_,by rw[List.length_replicate],hB,heap_alloc_new w _,by simp,hm,size_madeCells _ _,?_⟩⟩,lK.2 ⟨rfl,λx hx=>?_⟩⟩,Nat.le_trans hB (ae (o:=.cells _ _)).size⟩
 ·rw[<-UY,List.length_replicate,List.take_of_length_le];rw[Array.length_toList,size_madeCells];exact Nat.le_refl _
 ·rw[(List.mem_replicate.1 hx).2];exact ⟨⟨by decide,by decide⟩,⟨by decide,by decide⟩,by show (0:Nat)<=_;omega⟩
theorem zN {row:List Val}{ks:List Int}{k:Nat}{x:Int}{l:List Int}(h:ks.drop k=x :: l):fV row (ks.take (k+1))=fV row (ks.take k)++[if 0<=x/\x<(row.length:Int) then row.getD x.toNat zeroV else zeroV]:=by
 rw[aV h,fV,List.map_append];rfl
theorem Eh {row:List Val}{ks:List Int}{k m:Nat}{x:Int}{l:List Int}(h:ks.drop k=x :: l)(hk:k<m)(hl:ks.length=m)(y:Val)(hy:y=if 0<=x/\x<(row.length:Int) then row.getD x.toNat zeroV else zeroV):
  (fV row (ks.take k)++List.replicate (m-k) zeroV).set k y=fV row (ks.take (k+1))++List.replicate (m-(k+1)) zeroV:=by
 have h1:(fV row (ks.take k)).length=k:=by rw[fV,List.length_map,List.length_take];omega
 rw[zN h,<-hy,show m-k=(m-(k+1))+1 from by omega,List.replicate_succ,List.append_assoc];rw[List.set_append_right _ _ (by omega),h1,Nat.sub_self];rfl
theorem sP {row:List Val}{ks:List Int}{k m:Nat}{x:Int}{l:List Int}(h:ks.drop k=x :: l)(hk:k<m)(hx:¬(0<=x/\x<(row.length:Int))):
  fV row (ks.take k)++List.replicate (m-k) zeroV=fV row (ks.take (k+1))++List.replicate (m-(k+1)) zeroV:=by
 rw[zN h,if_neg hx,show m-k=(m-(k+1))+1 from by omega,List.replicate_succ,List.append_assoc];rfl
theorem OL.fz {α:Type}[Rep α]{e:TypeId}{B:Nat}{O:Nat->Prop}{T:List TypeId}{w:World}{g n c:Nat}{xs:List α}(h:OL e B O T w (.slice (some ⟨g,0,none⟩) n c) xs)(o:Nat):w.frozen? ⟨g,o,none⟩=false:=by
 obtain ⟨c',hc⟩:=(h.ty (g:=g) rfl).2;exact frozen_of_row w g o c' e hc
theorem OL.cellV {B:Nat}{O:Nat->Prop}{T:List TypeId}{w:World}{g n c:Nat}{xs:List Val}(h:OL 74 B O T w (.slice (some ⟨g,0,none⟩) n c) xs)(hl:xs.length=n){i:Nat}(hi:i<n): ∃u0 u1 u2,w.cell? ⟨g,i*3,none⟩=some u0/\w.cell? ⟨g,i*3+1,none⟩=some u1/\w.cell? ⟨g,i*3+2,none⟩=some u2:=by
 obtain ⟨cs,h1,h2⟩:=h.own;rcases h1.2 with ⟨e,_⟩|⟨g',cap,cur,e,hb,hh,r1,r2,r3,r4⟩
 ·cases e
 ·injection e with e1 e2 e3;injection e1 with e1;injection e1 with e1;subst e1 e3;have hm:n*3<=cur.size:=by
   have r3':cur.size=c*3:=r3;rw[r3'];exact Nat.mul_le_mul_right 3 (by omega)
  refine ⟨cur[i*3]'(by omega),cur[i*3+1]'(by omega),cur[i*3+2]'(by omega),?_,?_,?_⟩;all_goals rw[cell_of_row w g _ cur _ (0,0) hh,Array.getElem?_eq_getElem (by omega)]
theorem MW (w:World)(A:Option Addr)(n c:Nat)(row:List Val)(hx:In w A n c row)(A2:Option Addr)(n2 c2:Nat)(ks:List Int)(hy:In w A2 n2 c2 ks)(hn:n2<=4096):
  Calls Tryz.prog 129 #[.slice A n c,.slice A2 n2 c2] w
   λe w'=>(∃A' c',e=.returned (.slice A' n2 c')/\OL 74 w.heap.size (λ_=>False) [] w' (.slice A' n2 c') (fV row ks))/\Below w.heap.size w w':=by
 obtain ⟨i0,hi,hz0,hz1,hz2⟩:=info_parts lZ;have HX:=hide hx;have HY:=hide hy;have h63:=hx.le;have h64:=hy.le;clear hx hy;have hmk: ∀W,(Instr.makeSlice 59 (.int .i64 (n2:Int)) (.int .i64 (n2:Int))).run Tryz.prog W=.ok (.slice (some ⟨W.heap.size,0,none⟩) n2 n2) (W.alloc (.cells (madeCells (Value.agg #[.int .i64 0,.int .i64 0,.string ⟨#[]⟩]).cells (n2*3)) 74)):=λW=>by
  have h:=ui (P:=Tryz.prog) 59 74 i0 _ Tryz.underlying59 hi hz0 .i64 .i64 n2 n2 (Nat.le_refl _) (by rw[hz2];omega) (by omega) W;rw[hz1]at h;exact h
 have FT:Hid (OL 74 w.heap.size (λ_=>False) [] (w.alloc (.cells (madeCells #[.int .i64 0,.int .i64 0,.string ⟨#[]⟩] (n2*3)) 74)) (.slice (some ⟨w.heap.size,0,none⟩) n2 n2) (List.replicate n2 zeroV)):=hide (OL.zeros (Nat.le_refl _) (by simp only[maxLen];omega));go_enter Tryz.func129,Tryz.ntmps129;go_wp2;go_loopw [13] (λi wr=> ∃k:Nat,k<=n2/\i=.int .i64 k/\OL 74 w.heap.size (λ_=>False) [] wr (.slice (some ⟨w.heap.size,0,none⟩) n2 n2) (fV row (ks.take k)++List.replicate (n2-k) zeroV)/\Below w.heap.size w wr) (λi _=>n2-(RowKit.intOf i).toNat)
 case atStart=>exact ⟨0,Nat.zero_le _,rfl,by simpa[fV] using FT.out,ae⟩
 case round=>
  clear hmk FT;obtain ⟨k,hk,rfl,ho,hb⟩:=hrel;have HO:=hide ho;have HB:=hide hb;clear ho hb;by_cases hlt:k<n2
  ·obtain ⟨b,off,x,rfl,hBb,HS,e0,e1⟩:=(HY.out.below HB.out).int hlt;have k0:(0:Int)<=(k:Int):=by omega
   have k1:(k:Int)<(n2:Int):=by omega
   by_cases h0:0<=x
   ·by_cases h1:x<(n:Int)
    ·obtain ⟨b',off',y,rfl,Xx,HV,f0,f1,f2,f3⟩:=(HX.out.below HB.out).val (k:=x.toNat) (by omega);have hln:(fV row (ks.take k)++List.replicate (n2-k) zeroV).length=n2:=by
      rw[List.length_append,fV,List.length_map,List.length_take,List.length_replicate,HY.out.len];omega
     obtain ⟨u0,u1,u2,c0,c1,c2⟩:=HO.out.cellV hln hlt;have z0:=HO.out.fz (k*3);have z1:=HO.out.fz (k*3+1);have z2:=HO.out.fz (k*3+2);have QH:=hide (HO.out.set3 hln hlt f3);have hfs:=Eh (row:=row) HS.out hlt HY.out.len y (by
      rw[if_pos ⟨h0,by rw[HX.out.len];exact h1⟩];have:=(bX HV.out).1;rw[List.getD_eq_getElem?_getD,this];rfl)
     rw[hfs]at QH;have DI:=hide (((HB.out.setCell (p:=⟨w.heap.size,k*3,none⟩) (Nat.le_refl _) (.int .i64 y.kind)).setCell (p:=⟨w.heap.size,k*3+1,none⟩) (Nat.le_refl _) (.int .i64 y.num)).setCell (p:=⟨w.heap.size,k*3+2,none⟩) (Nat.le_refl _) (.string y.str));clear hln hfs;go_wp2;go_roundw
     case rel=>exact ⟨k+1,by omega,by go_num,by first|exact QH.out|exact QH.out.below (bD (Below.refl _ _)),by first|exact DI.out|exact bD DI.out⟩
     case measure=>simp[RowKit.intOf];omega
    ·have kv:=HO.out;rw[sP (row:=row) HS.out hlt (by rw[HX.out.len];omega)]at kv;have kv:=hide kv;go_wp2
     (try go_quiet (fail))
     (try go_wp2);go_roundw
     case rel=>exact ⟨k+1,by omega,by go_num,by first|exact kv.out|exact kv.out.below (bD (Below.refl _ _)),by first|exact HB.out|exact bD HB.out⟩
     case measure=>simp[RowKit.intOf];omega
   ·have kv:=HO.out;rw[sP (row:=row) HS.out hlt (by omega)]at kv;have kv:=hide kv;go_wp2
    (try go_quiet (fail))
    (try go_wp2);go_roundw
    case rel=>exact ⟨k+1,by omega,by go_num,by first|exact kv.out|exact kv.out.below (bD (Below.refl _ _)),by first|exact HB.out|exact bD HB.out⟩
    case measure=>simp[RowKit.intOf];omega
  ·have kv:=HO.out;rw[show n2-k=0 from by omega,List.replicate_zero,List.append_nil,List.take_of_length_le (by rw[HY.out.len];omega)]at kv;have kv:=hide kv;go_wp2;go_ret;exact ⟨⟨_,_,rfl,kv.out⟩,HB.out⟩
theorem Fg (w:World)(A:Option Addr)(n c:Nat)(row:List Val)(hx:In w A n c row)(A2:Option Addr)(n2 c2:Nat)(ks:List Int)(hy:In w A2 n2 c2 ks)(hn:n2<=4096):
  Calls Tryz.prog 87 #[.slice A n c,.slice A2 n2 c2] w
   λe w'=>(∃A' c',e=.returned (.slice A' n2 c')/\OL 74 w.heap.size (λ_=>False) [] w' (.slice A' n2 c') (fV row ks))/\Below w.heap.size w w':=by
 go_enter Tryz.func87,Tryz.ntmps87;go_wp2_with fail;refine (MW _ A n c row (by exact hx) A2 n2 c2 ks (by exact hy) hn).mono ?_;rintro e w1 ⟨⟨A',c',rfl,ho⟩,hb⟩;have HO:=hide ho;have HB:=hide hb;clear ho hb;go_wp2;go_ret;exact ⟨⟨A',c',rfl,HO.out⟩,HB.out⟩
theorem MV (w:World)(A:Option Addr)(n c:Nat)(row:List Val)(hx:In w A n c row)(A2:Option Addr)(n2 c2:Nat)(ks:List Int)(hy:In w A2 n2 c2 ks)(hn:n2<=4096):
  Calls Tryz.prog 123 #[.slice A n c,.slice A2 n2 c2] w
   λe w'=>(∃A' c',e=.returned (.slice A' n2 c')/\OL 74 w.heap.size (λ_=>False) [] w' (.slice A' n2 c') (fV row ks))/\Below w.heap.size w w':=by
 obtain ⟨i0,hi,hz0,hz1,hz2⟩:=info_parts lZ;have HX:=hide hx;have HY:=hide hy;have h63:=hx.le;have h64:=hy.le;clear hx hy;have hmk: ∀W,(Instr.makeSlice 59 (.int .i64 (n2:Int)) (.int .i64 (n2:Int))).run Tryz.prog W=.ok (.slice (some ⟨W.heap.size,0,none⟩) n2 n2) (W.alloc (.cells (madeCells (Value.agg #[.int .i64 0,.int .i64 0,.string ⟨#[]⟩]).cells (n2*3)) 74)):=λW=>by
  have h:=ui (P:=Tryz.prog) 59 74 i0 _ Tryz.underlying59 hi hz0 .i64 .i64 n2 n2 (Nat.le_refl _) (by rw[hz2];omega) (by omega) W;rw[hz1]at h;exact h
 have FT:Hid (OL 74 w.heap.size (λ_=>False) [] (w.alloc (.cells (madeCells #[.int .i64 0,.int .i64 0,.string ⟨#[]⟩] (n2*3)) 74)) (.slice (some ⟨w.heap.size,0,none⟩) n2 n2) (List.replicate n2 zeroV)):=hide (OL.zeros (Nat.le_refl _) (by simp only[maxLen];omega));go_enter Tryz.func123,Tryz.ntmps123;go_wp2;go_loopw [6] (λi wr=> ∃k:Nat,k<=n2/\i=.int .i64 k/\OL 74 w.heap.size (λ_=>False) [] wr (.slice (some ⟨w.heap.size,0,none⟩) n2 n2) (fV row (ks.take k)++List.replicate (n2-k) zeroV)/\Below w.heap.size w wr) (λi _=>n2-(RowKit.intOf i).toNat)
 case atStart=>exact ⟨0,Nat.zero_le _,rfl,by simpa[fV] using FT.out,ae⟩
 case round=>
  clear hmk FT;obtain ⟨k,hk,rfl,ho,hb⟩:=hrel;have HO:=hide ho;have HB:=hide hb;clear ho hb;by_cases hlt:k<n2
  ·obtain ⟨b,off,x,rfl,hBb,HS,e0,e1⟩:=(HY.out.below HB.out).int hlt;have k0:(0:Int)<=(k:Int):=by omega
   have k1:(k:Int)<(n2:Int):=by omega
   by_cases h0:0<=x
   ·by_cases h1:x<(n:Int)
    ·obtain ⟨b',off',y,rfl,Xx,HV,f0,f1,f2,f3⟩:=(HX.out.below HB.out).val (k:=x.toNat) (by omega);have hln:(fV row (ks.take k)++List.replicate (n2-k) zeroV).length=n2:=by
      rw[List.length_append,fV,List.length_map,List.length_take,List.length_replicate,HY.out.len];omega
     obtain ⟨u0,u1,u2,c0,c1,c2⟩:=HO.out.cellV hln hlt;have z0:=HO.out.fz (k*3);have z1:=HO.out.fz (k*3+1);have z2:=HO.out.fz (k*3+2);have QH:=hide (HO.out.set3 hln hlt f3);have hfs:=Eh (row:=row) HS.out hlt HY.out.len y (by
      rw[if_pos ⟨h0,by rw[HX.out.len];exact h1⟩];have:=(bX HV.out).1;rw[List.getD_eq_getElem?_getD,this];rfl)
     rw[hfs]at QH;have DI:=hide (((HB.out.setCell (p:=⟨w.heap.size,k*3,none⟩) (Nat.le_refl _) (.int .i64 y.kind)).setCell (p:=⟨w.heap.size,k*3+1,none⟩) (Nat.le_refl _) (.int .i64 y.num)).setCell (p:=⟨w.heap.size,k*3+2,none⟩) (Nat.le_refl _) (.string y.str));clear hln hfs;go_wp2;go_roundw
     case rel=>exact ⟨k+1,by omega,by go_num,by first|exact QH.out|exact QH.out.below (bD (Below.refl _ _)),by first|exact DI.out|exact bD DI.out⟩
     case measure=>simp[RowKit.intOf];omega
    ·have kv:=HO.out;rw[sP (row:=row) HS.out hlt (by rw[HX.out.len];omega)]at kv;have kv:=hide kv;go_wp2
     (try go_quiet (fail))
     (try go_wp2);go_roundw
     case rel=>exact ⟨k+1,by omega,by go_num,by first|exact kv.out|exact kv.out.below (bD (Below.refl _ _)),by first|exact HB.out|exact bD HB.out⟩
     case measure=>simp[RowKit.intOf];omega
   ·have kv:=HO.out;rw[sP (row:=row) HS.out hlt (by omega)]at kv;have kv:=hide kv;go_wp2
    (try go_quiet (fail))
    (try go_wp2);go_roundw
    case rel=>exact ⟨k+1,by omega,by go_num,by first|exact kv.out|exact kv.out.below (bD (Below.refl _ _)),by first|exact HB.out|exact bD HB.out⟩
    case measure=>simp[RowKit.intOf];omega
  ·have kv:=HO.out;rw[show n2-k=0 from by omega,List.replicate_zero,List.append_nil,List.take_of_length_le (by rw[HY.out.len];omega)]at kv;have kv:=hide kv;go_wp2;go_ret;exact ⟨⟨_,_,rfl,kv.out⟩,HB.out⟩
end Go.Proofs.YtggejcekmehocaaGreatDoor
