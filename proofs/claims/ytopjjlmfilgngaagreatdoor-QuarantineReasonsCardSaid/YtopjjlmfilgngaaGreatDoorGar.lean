/-
  Worlds that only grew: draws and new blocks behind (what a comparison inside a sort may leave); value.Compare, slices.CompareFunc and value.CompareRows leave no more; the closure of bag.sum. slices.SortFunc at a row of the call's own, of any element: the row holds a sorted permutation of what it held. No program is in sight. schema.Pick, warehouseref5.Pick: values by their numbers.
-/
import Derived.Shelf.SlSortCmp.NoneTotal
import Derived.Test.YtopjjlmfilgngaaGreatDoorGao
namespace Go.Proofs.YtopjjlmfilgngaaGreatDoor
set_option maxHeartbeats 4000000
set_option maxRecDepth 100000
set_option linter.unusedVariables false
set_option linter.unusedSimpArgs false
open Go.RowKit
def Gr (w w':World):Prop:= ∃q a,w'=Sort.grow (w.drewN q) a
theorem Gr.refl (w:World):Gr w w:=⟨0,#[],by simp[Sort.grow_empty,World.drewN_zero]⟩
theorem FW (w:World)(a:Array Obj)(n:Nat):(Sort.grow w a).drewN n=Sort.grow (w.drewN n) a:=rfl
theorem Gr.trans {a b c:World}(h:Gr a b)(d:Gr b c):Gr a c:=by
 obtain⟨q,e,rfl⟩:=h;obtain⟨g,f,rfl⟩:=d;exact⟨q+g,e++f,by rw[FW,World.drewN_drewN,Sort.grow_grow]⟩
theorem KZ (w:World)(o:Obj):Gr w (w.alloc o):=⟨0,#[o],by rw[World.drewN_zero,Sort.alloc_eq_grow]⟩
theorem En (w:World)(n:Nat):Gr w (w.drewN n):=⟨n,#[],by simp[Sort.grow_empty]⟩
theorem Nu (w:World):Gr w w.drew:=En w 1
theorem Gr.alloc {a b:World}(h:Gr a b)(o:Obj):Gr a (b.alloc o):=h.trans (KZ _ _)
theorem Gr.drew {a b:World}(h:Gr a b):Gr a b.drew:=h.trans (Nu _)
theorem Gr.drewN {a b:World}(h:Gr a b)(n:Nat):Gr a (b.drewN n):=h.trans (En _ _)
theorem Gr.below {a b:World}(h:Gr a b):Below a.heap.size a b:=by
 obtain⟨q,c,rfl⟩:=h;exact⟨rfl,rfl,rfl,by rw[Sort.size_grow];exact Nat.le_add_right _ _,λi hi=>Sort.heap_grow_old _ _ hi⟩
theorem BJ {β:Type}{enc:β->List Value}{k:Nat}(a: ∀x,(enc x).length=k): ∀(l:List β) (i j:Nat) (hi:i<l.length),j<k->(l.flatMap enc)[i*k+j]?=(enc l[i])[j]?
 | [],i,j,hi,_=>absurd hi (by simp)
 |x::l,0,j,_,hj=>by
  rw[List.flatMap_cons,Nat.zero_mul,Nat.zero_add,List.getElem?_append_left (by rw[a];exact hj)];rfl
 |x::l,i+1,j,hi,hj=>by
  rw[List.flatMap_cons,List.getElem?_append_right (by rw[a,Nat.add_mul];omega),a,show(i+1)*k+j-k=i*k+j from by rw[Nat.add_mul];omega];exact BJ a l i j (by simpa using hi) hj
theorem uG {β:Type}{enc:β->List Value}{k:Nat}(a: ∀x,(enc x).length=k): ∀(l:List β),(l.flatMap enc).length=l.length*k
 | []=>by simp
 |x::l=>by rw[List.flatMap_cons,List.length_append,a,uG a l,List.length_cons,Nat.add_mul];omega
section
variable {P:Program}{ρ:Shelf.Ren}
end
def zeroV:Val:=⟨0,0,⟨#[]⟩⟩
def kX (row:List Val)(ks:List Int):List Val:=ks.map λ(k:Int)=>if 0<=k/\k<(row.length:Int) then row.getD k.toNat zeroV else zeroV
theorem sU (v:Val):v.cells.length=3:=rfl
theorem BK (v:Val): ∀(xs:List Val) (i:Nat),i<xs.length->(xs.set i v).flatMap Val.cells=(((xs.flatMap Val.cells).set (i*3) (.int .i64 v.kind)).set (i*3+1) (.int .i64 v.num)).set (i*3+2) (.string v.str)
 | [],i,h=>absurd h (by simp)
 |x::xs,0,_=>by simp[Val.cells]
 |x::xs,i+1,h=>by
  have a:=BK v xs i (by simpa using h);rw[List.set_cons_succ,List.flatMap_cons,a,List.flatMap_cons];simp only[Val.cells,List.cons_append,List.nil_append];rw[show(i+1)*3=i*3+1+1+1 from by omega,show i*3+1+1+1+1=i*3+1+1+1+1 from rfl];simp only[List.set_cons_succ]
theorem oN: ∀{xs:List Val} {w:World} {S:Nat->Prop} {b:List Value},Cells w S b xs↔b=xs.flatMap Val.cells/\ ∀x∈xs,x.ok
 | [],w,S,b=>by
  constructor
  ·intro h;exact⟨h,by simp⟩
  ·intro h;exact h.1
 |x::xs,w,S,b=>by
  constructor
  ·rintro⟨c0,c1,rfl,⟨rfl,c⟩,d⟩;obtain⟨rfl,e⟩:=oN.1 d;exact⟨rfl,λy a=>by
    rcases List.mem_cons.1 a with rfl|a
    ·exact c
    ·exact e y a⟩
  ·rintro⟨rfl,h⟩;exact⟨_,_,rfl,⟨rfl,h x (by simp)⟩,oN.2 ⟨rfl,λy a=>h y (by simp[a])⟩⟩
theorem OL.set3 {B:Nat}{O:Nat->Prop}{T:List TypeId}{w:World}{g n c:Nat}{xs:List Val}(h:OL 36 B O T w (.slice (some ⟨g,0,none⟩) n c) xs)(l:xs.length=n){i:Nat}(hi:i<n){v:Val}(o:v.ok):
  OL 36 B O T (((w.setCell ⟨g,i*3,none⟩ (.int .i64 v.kind)).setCell ⟨g,i*3+1,none⟩ (.int .i64 v.num)).setCell ⟨g,i*3+2,none⟩ (.string v.str)) (.slice (some ⟨g,0,none⟩) n c) (xs.set i v):=by
 obtain⟨t,d,f⟩:=h.own;obtain⟨rfl,m⟩:=oN.1 f;rcases d.2 with ⟨e,_⟩|⟨u,cap,b,e,hb,j,p,q,r,s⟩
 ·cases e
 ·injection e with e1 e2 e3;injection e1 with e1;injection e1 with e1;subst e1 e3;have k:(((w.setCell ⟨g,i*3,none⟩ (.int .i64 v.kind)).setCell ⟨g,i*3+1,none⟩ (.int .i64 v.num)).setCell ⟨g,i*3+2,none⟩ (.string v.str)).heap[g]?=some (.cells (((b.setIfInBounds (i*3) (.int .i64 v.kind)).setIfInBounds (i*3+1) (.int .i64 v.num)).setIfInBounds (i*3+2) (.string v.str)) 36 (0,0)):=by
   simp[World.setCell,Array.getElem?_modify,j]
  refine⟨⟨(xs.set i v).flatMap Val.cells,⟨?_,.inr ⟨g,c,_,by rw[List.length_set,l],hb,k,by rw[List.length_set];exact p,q,by simpa using r,?_⟩⟩,oN.2 ⟨rfl,λy a=>?_⟩⟩,by simpa[World.setCell] using h.base⟩
  ·rw[uG sU];rfl
  ·rw[List.length_set,BK v xs i (by omega),<-s];simp only[Array.toList_setIfInBounds,List.take_set]
  ·rcases List.mem_or_eq_of_mem_set a with a|rfl
   ·exact m y a
   ·exact o
theorem Pw: ∀(n:Nat),(madeCells #[.int .i64 0,.int .i64 0,.string ⟨#[]⟩] (n*3)).toList=(List.replicate n (⟨0,0,⟨#[]⟩⟩:Val)).flatMap Val.cells:=by
 intro n;apply List.ext_getElem?;intro t;by_cases e:t<n*3
 ·have c:t / 3<n:=by omega
  have b:=BJ sU (List.replicate n (⟨0,0,⟨#[]⟩⟩:Val)) (t / 3) (t % 3) (by simpa using c) (by omega);rw[show t / 3*3+t % 3=t from by omega]at b;rw[b];rw[Array.getElem?_toList];simp only[madeCells,Array.getElem?_map,List.getElem_replicate];rw[Array.getElem?_eq_getElem (by simpa using e)];simp only[Array.getElem_range,Option.map_some,Val.cells];have a:t % 3=0\/t % 3=1\/t % 3=2:=by omega
  have d:(#[Value.int .i64 0,Value.int .i64 0,Value.string ⟨#[]⟩]:Array Value).size=3:=rfl;rw[d];rcases a with a|a|a<;>rw[a]<;>rfl
 ·rw[List.getElem?_eq_none (by simp[size_madeCells];omega),List.getElem?_eq_none (by rw[uG sU];simp;omega)]
theorem OL.zeros {B:Nat}{O:Nat->Prop}{T:List TypeId}{w:World}{n:Nat}(a:B<=w.heap.size)(b:n<=maxLen):
  OL (α:=Val) 36 B O T (w.alloc (.cells (madeCells #[.int .i64 0,.int .i64 0,.string ⟨#[]⟩] (n*3)) 36)) (.slice (some ⟨w.heap.size,0,none⟩) n n) (List.replicate n ⟨0,0,⟨#[]⟩⟩):=by
 refine⟨⟨(List.replicate n (⟨0,0,⟨#[]⟩⟩:Val)).flatMap Val.cells,⟨by rw[uG sU];rfl,.inr ⟨w.heap.size,n,_,by rw[List.length_replicate],a,heap_alloc_new w _,by simp,b,size_madeCells _ _,?_⟩⟩,oN.2 ⟨rfl,λx c=>?_⟩⟩,Nat.le_trans a (fI (o:=.cells _ _)).size⟩
 ·rw[<-Pw,List.length_replicate,List.take_of_length_le];rw[Array.length_toList,size_madeCells];exact Nat.le_refl _
 ·rw[(List.mem_replicate.1 c).2];exact⟨⟨by decide,by decide⟩,⟨by decide,by decide⟩,by show(0:Nat)<=_;omega⟩
theorem zI {row:List Val}{ks:List Int}{k:Nat}{x:Int}{l:List Int}(h:ks.drop k=x::l):kX row (ks.take (k+1))=kX row (ks.take k)++[if 0<=x/\x<(row.length:Int) then row.getD x.toNat zeroV else zeroV]:=by
 rw[ic h,kX,List.map_append];rfl
theorem Eg {row:List Val}{ks:List Int}{k m:Nat}{x:Int}{l:List Int}(h:ks.drop k=x::l)(c:k<m)(d:ks.length=m)(y:Val)(b:y=if 0<=x/\x<(row.length:Int) then row.getD x.toNat zeroV else zeroV):
  (kX row (ks.take k)++List.replicate (m-k) zeroV).set k y=kX row (ks.take (k+1))++List.replicate (m-(k+1)) zeroV:=by
 have a:(kX row (ks.take k)).length=k:=by rw[kX,List.length_map,List.length_take];omega
 rw[zI h,<-b,show m-k=(m-(k+1))+1 from by omega,List.replicate_succ,List.append_assoc];rw[List.set_append_right _ _ (by omega),a,Nat.sub_self];rfl
theorem uF {row:List Val}{ks:List Int}{k m:Nat}{x:Int}{l:List Int}(h:ks.drop k=x::l)(b:k<m)(a:¬(0<=x/\x<(row.length:Int))):
  kX row (ks.take k)++List.replicate (m-k) zeroV=kX row (ks.take (k+1))++List.replicate (m-(k+1)) zeroV:=by
 rw[zI h,if_neg a,show m-k=(m-(k+1))+1 from by omega,List.replicate_succ,List.append_assoc];rfl
theorem OL.fz {α:Type}[Rep α]{e:TypeId}{B:Nat}{O:Nat->Prop}{T:List TypeId}{w:World}{g n c:Nat}{xs:List α}(h:OL e B O T w (.slice (some ⟨g,0,none⟩) n c) xs)(o:Nat):w.frozen? ⟨g,o,none⟩=false:=by
 obtain⟨c',a⟩:=(h.ty (g:=g) rfl).2;exact frozen_of_row w g o c' e a
theorem OL.cellV {B:Nat}{O:Nat->Prop}{T:List TypeId}{w:World}{g n c:Nat}{xs:List Val}(h:OL 36 B O T w (.slice (some ⟨g,0,none⟩) n c) xs)(r:xs.length=n){i:Nat}(hi:i<n): ∃k l m,w.cell? ⟨g,i*3,none⟩=some k/\w.cell? ⟨g,i*3+1,none⟩=some l/\w.cell? ⟨g,i*3+2,none⟩=some m:=by
 obtain⟨o,b,q⟩:=h.own;rcases b.2 with ⟨e,_⟩|⟨p,cap,a,e,hb,d,t,u,f,v⟩
 ·cases e
 ·injection e with e1 e2 e3;injection e1 with e1;injection e1 with e1;subst e1 e3;have s:n*3<=a.size:=by
   have j:a.size=c*3:=f;rw[j];exact Nat.mul_le_mul_right 3 (by omega)
  refine⟨a[i*3]'(by omega),a[i*3+1]'(by omega),a[i*3+2]'(by omega),?_,?_,?_⟩;all_goals rw[cell_of_row w g _ a _ (0,0) d,Array.getElem?_eq_getElem (by omega)]
theorem LJ (w:World)(A:Option Addr)(n c:Nat)(row:List Val)(s:In w A n c row)(A2:Option Addr)(n2 c2:Nat)(ks:List Int)(t:In w A2 n2 c2 ks)(X:n2<=4096):
  Calls Tryz.prog 141 #[.slice A n c,.slice A2 n2 c2] w
   λe w'=>(∃A' c',e=.returned (.slice A' n2 c')/\OL 36 w.heap.size (λ_=>False) [] w' (.slice A' n2 c') (kX row ks))/\Below w.heap.size w w':=by
 obtain⟨K,hi,H,I,J⟩:=info_parts nQ;have q:=Hm s;have j:=Hm t;have R:=s.le;have S:=t.le;clear s t;have G: ∀W,(Instr.makeSlice 23 (.int .i64 (n2:Int)) (.int .i64 (n2:Int))).run Tryz.prog W=.ok (.slice (some ⟨W.heap.size,0,none⟩) n2 n2) (W.alloc (.cells (madeCells (Value.agg #[.int .i64 0,.int .i64 0,.string ⟨#[]⟩]).cells (n2*3)) 36)):=λW=>by
  have h:=vw (P:=Tryz.prog) 23 36 K _ Tryz.underlying23 hi H .i64 .i64 n2 n2 (Nat.le_refl _) (by rw[J];omega) (by omega) W;rw[I]at h;exact h
 have v:Hl (OL 36 w.heap.size (λ_=>False) [] (w.alloc (.cells (madeCells #[.int .i64 0,.int .i64 0,.string ⟨#[]⟩] (n2*3)) 36)) (.slice (some ⟨w.heap.size,0,none⟩) n2 n2) (List.replicate n2 zeroV)):=Hm (OL.zeros (Nat.le_refl _) (by simp only[maxLen];omega));go_enter Tryz.func141,Tryz.ntmps141;go_wp2;go_loopw [13] (λi wr=> ∃k:Nat,k<=n2/\i=.int .i64 k/\OL 36 w.heap.size (λ_=>False) [] wr (.slice (some ⟨w.heap.size,0,none⟩) n2 n2) (kX row (ks.take k)++List.replicate (n2-k) zeroV)/\Below w.heap.size w wr) (λi _=>n2-(RowKit.intOf i).toNat)
 case atStart=>exact⟨0,Nat.zero_le _,rfl,by simpa[kX] using v.o,fI⟩
 case round=>
  clear G v;obtain⟨k,V,rfl,B,hb⟩:=hrel;have f:=Hm B;have d:=Hm hb;clear B hb;by_cases g:k<n2
  ·obtain⟨b,off,x,rfl,T,l,M,N⟩:=(j.o.below d.o).int g;have Y:(0:Int)<=(k:Int):=by omega
   have Z:(k:Int)<(n2:Int):=by omega
   by_cases E:0<=x
   ·by_cases F:x<(n:Int)
    ·obtain⟨L,aa,y,rfl,U,C,O,f1,Q,D⟩:=(q.o.below d.o).val (k:=x.toNat) (by omega);have r:(kX row (ks.take k)++List.replicate (n2-k) zeroV).length=n2:=by
      rw[List.length_append,kX,List.length_map,List.length_take,List.length_replicate,j.o.len];omega
     obtain⟨u0,u1,u2,c0,c1,c2⟩:=f.o.cellV r g;have z0:=f.o.fz (k*3);have z1:=f.o.fz (k*3+1);have z2:=f.o.fz (k*3+2);have m:=Hm (f.o.set3 r g D);have z:=Eg (row:=row) l.o g j.o.len y (by
      rw[if_pos ⟨E,by rw[q.o.len];exact F⟩];have:=(iR C.o).1;rw[List.getD_eq_getElem?_getD,this];rfl)
     rw[z]at m;have u:=Hm (((d.o.setCell (p:=⟨w.heap.size,k*3,none⟩) (Nat.le_refl _) (.int .i64 y.kind)).setCell (p:=⟨w.heap.size,k*3+1,none⟩) (Nat.le_refl _) (.int .i64 y.num)).setCell (p:=⟨w.heap.size,k*3+2,none⟩) (Nat.le_refl _) (.string y.str));clear r z;go_wp2;go_roundw
     case rel=>exact⟨k+1,by omega,by go_num,by first|exact m.o|exact m.o.below (iH (Below.refl _ _)),by first|exact u.o|exact iH u.o⟩
     case measure=>simp[RowKit.intOf];omega
    ·have a:=f.o;rw[uF (row:=row) l.o g (by rw[q.o.len];omega)]at a;have a:=Hm a;go_wp2
     (try go_quiet (fail))
     (try go_wp2);go_roundw
     case rel=>exact⟨k+1,by omega,by go_num,by first|exact a.o|exact a.o.below (iH (Below.refl _ _)),by first|exact d.o|exact iH d.o⟩
     case measure=>simp[RowKit.intOf];omega
   ·have a:=f.o;rw[uF (row:=row) l.o g (by omega)]at a;have a:=Hm a;go_wp2
    (try go_quiet (fail))
    (try go_wp2);go_roundw
    case rel=>exact⟨k+1,by omega,by go_num,by first|exact a.o|exact a.o.below (iH (Below.refl _ _)),by first|exact d.o|exact iH d.o⟩
    case measure=>simp[RowKit.intOf];omega
  ·have a:=f.o;rw[show n2-k=0 from by omega,List.replicate_zero,List.append_nil,List.take_of_length_le (by rw[j.o.len];omega)]at a;have a:=Hm a;go_wp2;go_ret;exact⟨⟨_,_,rfl,a.o⟩,d.o⟩
theorem LG (w:World)(A:Option Addr)(n c:Nat)(row:List Val)(g:In w A n c row)(A2:Option Addr)(n2 c2:Nat)(ks:List Int)(h:In w A2 n2 c2 ks)(f:n2<=4096):
  Calls Tryz.prog 109 #[.slice A n c,.slice A2 n2 c2] w
   λe w'=>(∃A' c',e=.returned (.slice A' n2 c')/\OL 36 w.heap.size (λ_=>False) [] w' (.slice A' n2 c') (kX row ks))/\Below w.heap.size w w':=by
 go_enter Tryz.func109,Tryz.ntmps109;go_wp2_with fail;refine(LJ _ A n c row (by exact g) A2 n2 c2 ks (by exact h) f).mono ?_;rintro e i ⟨⟨A',c',rfl,a⟩,hb⟩;have d:=Hm a;have b:=Hm hb;clear a hb;go_wp2;go_ret;exact⟨⟨A',c',rfl,d.o⟩,b.o⟩
theorem LH (w:World)(A:Option Addr)(n c:Nat)(row:List Val)(s:In w A n c row)(A2:Option Addr)(n2 c2:Nat)(ks:List Int)(t:In w A2 n2 c2 ks)(X:n2<=4096):
  Calls Tryz.prog 96 #[.slice A n c,.slice A2 n2 c2] w
   λe w'=>(∃A' c',e=.returned (.slice A' n2 c')/\OL 36 w.heap.size (λ_=>False) [] w' (.slice A' n2 c') (kX row ks))/\Below w.heap.size w w':=by
 obtain⟨K,hi,H,I,J⟩:=info_parts nQ;have q:=Hm s;have j:=Hm t;have R:=s.le;have S:=t.le;clear s t;have G: ∀W,(Instr.makeSlice 23 (.int .i64 (n2:Int)) (.int .i64 (n2:Int))).run Tryz.prog W=.ok (.slice (some ⟨W.heap.size,0,none⟩) n2 n2) (W.alloc (.cells (madeCells (Value.agg #[.int .i64 0,.int .i64 0,.string ⟨#[]⟩]).cells (n2*3)) 36)):=λW=>by
  have h:=vw (P:=Tryz.prog) 23 36 K _ Tryz.underlying23 hi H .i64 .i64 n2 n2 (Nat.le_refl _) (by rw[J];omega) (by omega) W;rw[I]at h;exact h
 have v:Hl (OL 36 w.heap.size (λ_=>False) [] (w.alloc (.cells (madeCells #[.int .i64 0,.int .i64 0,.string ⟨#[]⟩] (n2*3)) 36)) (.slice (some ⟨w.heap.size,0,none⟩) n2 n2) (List.replicate n2 zeroV)):=Hm (OL.zeros (Nat.le_refl _) (by simp only[maxLen];omega));go_enter Tryz.func96,Tryz.ntmps96;go_wp2;go_loopw [6] (λi wr=> ∃k:Nat,k<=n2/\i=.int .i64 k/\OL 36 w.heap.size (λ_=>False) [] wr (.slice (some ⟨w.heap.size,0,none⟩) n2 n2) (kX row (ks.take k)++List.replicate (n2-k) zeroV)/\Below w.heap.size w wr) (λi _=>n2-(RowKit.intOf i).toNat)
 case atStart=>exact⟨0,Nat.zero_le _,rfl,by simpa[kX] using v.o,fI⟩
 case round=>
  clear G v;obtain⟨k,V,rfl,B,hb⟩:=hrel;have f:=Hm B;have d:=Hm hb;clear B hb;by_cases g:k<n2
  ·obtain⟨b,off,x,rfl,T,l,M,N⟩:=(j.o.below d.o).int g;have Y:(0:Int)<=(k:Int):=by omega
   have Z:(k:Int)<(n2:Int):=by omega
   by_cases E:0<=x
   ·by_cases F:x<(n:Int)
    ·obtain⟨L,aa,y,rfl,U,C,O,f1,Q,D⟩:=(q.o.below d.o).val (k:=x.toNat) (by omega);have r:(kX row (ks.take k)++List.replicate (n2-k) zeroV).length=n2:=by
      rw[List.length_append,kX,List.length_map,List.length_take,List.length_replicate,j.o.len];omega
     obtain⟨u0,u1,u2,c0,c1,c2⟩:=f.o.cellV r g;have z0:=f.o.fz (k*3);have z1:=f.o.fz (k*3+1);have z2:=f.o.fz (k*3+2);have m:=Hm (f.o.set3 r g D);have z:=Eg (row:=row) l.o g j.o.len y (by
      rw[if_pos ⟨E,by rw[q.o.len];exact F⟩];have:=(iR C.o).1;rw[List.getD_eq_getElem?_getD,this];rfl)
     rw[z]at m;have u:=Hm (((d.o.setCell (p:=⟨w.heap.size,k*3,none⟩) (Nat.le_refl _) (.int .i64 y.kind)).setCell (p:=⟨w.heap.size,k*3+1,none⟩) (Nat.le_refl _) (.int .i64 y.num)).setCell (p:=⟨w.heap.size,k*3+2,none⟩) (Nat.le_refl _) (.string y.str));clear r z;go_wp2;go_roundw
     case rel=>exact⟨k+1,by omega,by go_num,by first|exact m.o|exact m.o.below (iH (Below.refl _ _)),by first|exact u.o|exact iH u.o⟩
     case measure=>simp[RowKit.intOf];omega
    ·have a:=f.o;rw[uF (row:=row) l.o g (by rw[q.o.len];omega)]at a;have a:=Hm a;go_wp2
     (try go_quiet (fail))
     (try go_wp2);go_roundw
     case rel=>exact⟨k+1,by omega,by go_num,by first|exact a.o|exact a.o.below (iH (Below.refl _ _)),by first|exact d.o|exact iH d.o⟩
     case measure=>simp[RowKit.intOf];omega
   ·have a:=f.o;rw[uF (row:=row) l.o g (by omega)]at a;have a:=Hm a;go_wp2
    (try go_quiet (fail))
    (try go_wp2);go_roundw
    case rel=>exact⟨k+1,by omega,by go_num,by first|exact a.o|exact a.o.below (iH (Below.refl _ _)),by first|exact d.o|exact iH d.o⟩
    case measure=>simp[RowKit.intOf];omega
  ·have a:=f.o;rw[show n2-k=0 from by omega,List.replicate_zero,List.append_nil,List.take_of_length_le (by rw[j.o.len];omega)]at a;have a:=Hm a;go_wp2;go_ret;exact⟨⟨_,_,rfl,a.o⟩,d.o⟩
end Go.Proofs.YtopjjlmfilgngaaGreatDoor
