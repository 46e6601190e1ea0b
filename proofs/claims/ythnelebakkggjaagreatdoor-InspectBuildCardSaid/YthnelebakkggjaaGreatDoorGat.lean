/-
  Worlds that only grew: draws and new blocks behind (what a comparison inside a sort may leave); value.Compare, slices.CompareFunc and value.CompareRows leave no more; the closure of bag.sum. slices.SortFunc at a row of the call's own, of any element: the row holds a sorted permutation of what it held. No program is in sight. bag.sum: slices.Clone of entries, slices.SortFunc with bag.sum's closure, the loops; bag.Normalize. (The laying is what the kit's lay-plain.mjs wrote, numbers turned to names.) bag.Normalize; partition.Join. schema.Pick, warehouseref5.Pick: values by their numbers.
-/
import Derived.Shelf.SlSortCmp.NoneTotal
import Derived.Test.YthnelebakkggjaaGreatDoorGaq
namespace Go.Proofs.YthnelebakkggjaaGreatDoor
set_option maxHeartbeats 4000000
set_option maxRecDepth 100000
set_option linter.unusedVariables false
set_option linter.unusedSimpArgs false
open Go.RowKit
def Gr (w w':World):Prop:= ∃q a,w'=Sort.grow (w.drewN q) a
theorem Gr.refl (w:World):Gr w w:=⟨0,#[],by simp[Sort.grow_empty,World.drewN_zero]⟩
theorem EM (w:World)(a:Array Obj)(n:Nat):(Sort.grow w a).drewN n=Sort.grow (w.drewN n) a:=rfl
theorem Gr.trans {a b c:World}(h:Gr a b)(d:Gr b c):Gr a c:=by
 obtain⟨q,e,rfl⟩:=h;obtain⟨g,f,rfl⟩:=d;exact⟨q+g,e++f,by rw[EM,World.drewN_drewN,Sort.grow_grow]⟩
theorem Jc (w:World)(o:Obj):Gr w (w.alloc o):=⟨0,#[o],by rw[World.drewN_zero,Sort.alloc_eq_grow]⟩
theorem CW (w:World)(n:Nat):Gr w (w.drewN n):=⟨n,#[],by simp[Sort.grow_empty]⟩
theorem KV (w:World):Gr w w.drew:=CW w 1
theorem Gr.alloc {a b:World}(h:Gr a b)(o:Obj):Gr a (b.alloc o):=h.trans (Jc _ _)
theorem Gr.drew {a b:World}(h:Gr a b):Gr a b.drew:=h.trans (KV _)
theorem Gr.drewN {a b:World}(h:Gr a b)(n:Nat):Gr a (b.drewN n):=h.trans (CW _ _)
theorem Gr.b {a b:World}(h:Gr a b):Below a.heap.size a b:=by
 obtain⟨q,c,rfl⟩:=h;exact⟨rfl,rfl,rfl,by rw[Sort.size_grow];exact Nat.le_add_right _ _,λi hi=>Sort.heap_grow_old _ _ hi⟩
theorem AR {β:Type}{enc:β->List Value}{k:Nat}(a: ∀x,(enc x).length=k): ∀(l:List β) (i j:Nat) (hi:i<l.length),j<k->(l.flatMap enc)[i*k+j]?=(enc l[i])[j]?
 | [],i,j,hi,_=>absurd hi II
 |x::l,0,j,_,hj=>by
  rw[List.flatMap_cons,Nat.zero_mul,Nat.zero_add,List.getElem?_append_left (by rw[a];exact hj)];rfl
 |x::l,i+1,j,hi,hj=>by
  rw[List.flatMap_cons,List.getElem?_append_right (by rw[a,Nat.add_mul];omega),a,show(i+1)*k+j-k=i*k+j from by rw[Nat.add_mul];omega];exact AR a l i j (by simpa using hi) hj
theorem ut {β:Type}{enc:β->List Value}{k:Nat}(a: ∀x,(enc x).length=k): ∀(l:List β),(l.flatMap enc).length=l.length*k
 | []=>by simp
 |x::l=>by rw[List.flatMap_cons,List.length_append,a,ut a l,List.length_cons,Nat.add_mul];omega
section
variable {P:Program}{ρ:Shelf.Ren}
end
open Go.RowKit Go.Shelf
theorem EC (w:World)(A:Option Addr)(n c:Nat)(xs:List Ent)(d:In w A n c xs)(M:n<=1048576):
  Calls Tryz.prog 38 #[.slice A n c] w λe w'=>(∃A' c',e=.returned (.slice A' n c')/\OL 55 w.heap.size (λ_=>True) [] w' (.slice A' n c') xs)/\Below w.heap.size w w':=by
 have N:=λ(W:World) (a:Option Addr) (l c:Nat)=>Lib.run_eql_slice_nil (P:=Tryz.prog) W 30 55 a l c 0 0 Tryz.underlying30;have i:=d.len;cases A with
 |none=>
  have B:c=0:=d.2.2.2.1 rfl;have C:n=0:=by have:=d.2.1;omega
  subst B C;have E:xs=[]:=List.eq_nil_of_length_eq_zero d.1;subst E;clear i;go_enter Tryz.func38,Tryz.ntmps38;go_wp2;go_ret;exact⟨⟨_,_,rfl,OL.nil IK⟩,IJ⟩
 |some s=>
  have f:Below w.heap.size w (w.alloc (.cells #[] 55)):=eB;obtain⟨t,g,r⟩:=Sl.cells d;have g:=Hm ((g.keep (Same.b f)).mono λk G=>(show BS w.heap.size (λ_=>True) [] (w.alloc (.cells #[] 55)) k from .inl ⟨trivial,G⟩));have x:Hl (OL (α:=Ent) 55 w.heap.size (λ_=>True) [] (w.alloc (.cells #[] 55)) (.slice (some ⟨w.heap.size,0,none⟩) 0 0) []):=Hm ⟨⟨[],World.ownsRow_made w #[] 0 IK (by decide) rfl,rfl⟩,f.size⟩;have y:Hl (Src (w.alloc (.cells #[] 55)) 2 (some s) n t):=Hm ⟨r.1,λh=>by
   obtain⟨b,off,e,F⟩:=r.2 h;exact⟨b,off,e,λj u H=>by
    have v:=F j u H;exact eG f (lt_of_cell v) v⟩⟩
  have p:=Hm i;clear i;go_enter Tryz.func38,Tryz.ntmps38;go_wp2_with (at_builtin;refine ow _ rfl _ _ _ rfl jY II x.o rfl (some s) n c t xs rfl (λh=>by cases h) y.o g.o p.o (by simp only[maxLen,List.length_nil];omega) (by simp only[List.length_nil];omega) ?_;intro O Q m D L K);go_ret;obtain⟨I,J,z⟩:=m.form;have q:=Hm m;clear m;subst z;rw[List.nil_append]at q;rw[List.nil_append,p.o]at*;exact⟨⟨_,_,rfl,q.o⟩,f.trans D⟩
theorem SrcAt.alloc {w:World}{o:Obj}{size n:Nat}{A:Option Addr}{cs:List Value}(h:Src w size A n cs):Src (w.alloc o) size A n cs:=⟨h.1,λd=>by
 obtain⟨c,f,e,a⟩:=h.2 d;exact⟨c,f,e,λj u b=>eG eB (lt_of_cell (a j u b)) (a j u b)⟩⟩
def zeroV:Val:=⟨0,0,⟨#[]⟩⟩
def kQ (row:List Val)(ks:List Int):List Val:=ks.map λ(k:Int)=>if 0<=k/\k<(row.length:Int) then row.getD k.toNat zeroV else zeroV
theorem sG (v:Val):v.cells.length=3:=rfl
theorem AU (v:Val): ∀(xs:List Val) (i:Nat),i<xs.length->(xs.set i v).flatMap Val.cells=(((xs.flatMap Val.cells).set (i*3) (.int .i64 v.kind)).set (i*3+1) (.int .i64 v.num)).set (i*3+2) (.string v.str)
 | [],i,h=>absurd h II
 |x::xs,0,_=>by simp[Val.cells]
 |x::xs,i+1,h=>by
  have a:=AU v xs i (by simpa using h);rw[List.set_cons_succ,List.flatMap_cons,a,List.flatMap_cons];simp only[Val.cells,List.cons_append,List.nil_append];rw[show(i+1)*3=i*3+1+1+1 from by omega,show i*3+1+1+1+1=i*3+1+1+1+1 from rfl];simp only[List.set_cons_succ]
theorem oG: ∀{xs:List Val} {w:World} {S:Nat->Prop} {b:List Value},Cells w S b xs↔b=xs.flatMap Val.cells/\ ∀x∈xs,x.ok
 | [],w,S,b=>by
  constructor
  ·intro h;exact⟨h,by simp⟩
  ·intro h;exact h.1
 |x::xs,w,S,b=>by
  constructor
  ·rintro⟨c0,c1,rfl,⟨rfl,c⟩,d⟩;obtain⟨rfl,e⟩:=oG.1 d;exact⟨rfl,λy a=>by
    rcases List.mem_cons.1 a with rfl|a
    ·exact c
    ·exact e y a⟩
  ·rintro⟨rfl,h⟩;exact⟨_,_,rfl,⟨rfl,h x II⟩,oG.2 ⟨rfl,λy a=>h y (by simp[a])⟩⟩
theorem OL.set3 {B:Nat}{O:Nat->Prop}{T:List TypeId}{w:World}{g n c:Nat}{xs:List Val}(h:OL 67 B O T w (.slice (some ⟨g,0,none⟩) n c) xs)(l:xs.length=n){i:Nat}(hi:i<n){v:Val}(o:v.ok):
  OL 67 B O T (((w.setCell ⟨g,i*3,none⟩ (.int .i64 v.kind)).setCell ⟨g,i*3+1,none⟩ (.int .i64 v.num)).setCell ⟨g,i*3+2,none⟩ (.string v.str)) (.slice (some ⟨g,0,none⟩) n c) (xs.set i v):=by
 obtain⟨t,d,f⟩:=h.own;obtain⟨rfl,m⟩:=oG.1 f;rcases d.2 with ⟨e,_⟩|⟨u,cap,b,e,hb,j,p,q,r,s⟩
 ·cases e
 ·injection e with e1 e2 e3;injection e1 with e1;injection e1 with e1;subst e1 e3;have k:(((w.setCell ⟨g,i*3,none⟩ (.int .i64 v.kind)).setCell ⟨g,i*3+1,none⟩ (.int .i64 v.num)).setCell ⟨g,i*3+2,none⟩ (.string v.str)).heap[g]?=some (.cells (((b.setIfInBounds (i*3) (.int .i64 v.kind)).setIfInBounds (i*3+1) (.int .i64 v.num)).setIfInBounds (i*3+2) (.string v.str)) 67 (0,0)):=by
   simp[World.setCell,Array.getElem?_modify,j]
  refine⟨⟨(xs.set i v).flatMap Val.cells,⟨?_,.inr ⟨g,c,_,by rw[List.length_set,l],hb,k,by rw[List.length_set];exact p,q,by simpa using r,?_⟩⟩,oG.2 ⟨rfl,λy a=>?_⟩⟩,by simpa[World.setCell] using h.base⟩
  ·rw[ut sG];rfl
  ·rw[List.length_set,AU v xs i Ho,<-s];simp only[Array.toList_setIfInBounds,List.take_set]
  ·rcases List.mem_or_eq_of_mem_set a with a|rfl
   ·exact m y a
   ·exact o
theorem Nl: ∀(n:Nat),(madeCells #[.int .i64 0,.int .i64 0,.string ⟨#[]⟩] (n*3)).toList=(List.replicate n (⟨0,0,⟨#[]⟩⟩:Val)).flatMap Val.cells:=by
 intro n;apply List.ext_getElem?;intro t;by_cases e:t<n*3
 ·have c:t / 3<n:=by omega
  have b:=AR sG (List.replicate n (⟨0,0,⟨#[]⟩⟩:Val)) (t / 3) (t % 3) (by simpa using c) Ho;rw[show t / 3*3+t % 3=t from by omega]at b;rw[b];rw[Array.getElem?_toList];simp only[madeCells,Array.getElem?_map,List.getElem_replicate];rw[Array.getElem?_eq_getElem (by simpa using e)];simp only[Array.getElem_range,Option.map_some,Val.cells];have a:t % 3=0\/t % 3=1\/t % 3=2:=by omega
  have d:(#[Value.int .i64 0,Value.int .i64 0,Value.string ⟨#[]⟩]:Array Value).size=3:=rfl;rw[d];rcases a with a|a|a<;>rw[a]<;>rfl
 ·rw[List.getElem?_eq_none (by simp[size_madeCells];omega),List.getElem?_eq_none (by rw[ut sG];simp;omega)]
theorem OL.zeros {B:Nat}{O:Nat->Prop}{T:List TypeId}{w:World}{n:Nat}(a:B<=w.heap.size)(b:n<=maxLen):
  OL (α:=Val) 67 B O T (w.alloc (.cells (madeCells #[.int .i64 0,.int .i64 0,.string ⟨#[]⟩] (n*3)) 67)) (.slice (some ⟨w.heap.size,0,none⟩) n n) (List.replicate n ⟨0,0,⟨#[]⟩⟩):=by
 refine⟨⟨(List.replicate n (⟨0,0,⟨#[]⟩⟩:Val)).flatMap Val.cells,⟨by rw[ut sG];rfl,.inr ⟨w.heap.size,n,_,by rw[List.length_replicate],a,heap_alloc_new w _,by simp,b,size_madeCells _ _,?_⟩⟩,oG.2 ⟨rfl,λx c=>?_⟩⟩,Nat.le_trans a (eB (o:=.cells _ _)).size⟩
 ·rw[<-Nl,List.length_replicate,List.take_of_length_le];rw[Array.length_toList,size_madeCells];exact Nat.le_refl _
 ·rw[(List.mem_replicate.1 c).2];exact⟨⟨by decide,by decide⟩,⟨by decide,by decide⟩,by show(0:Nat)<=_;omega⟩
theorem zo {row:List Val}{ks:List Int}{k:Nat}{x:Int}{l:List Int}(h:ks.drop k=x::l):kQ row (ks.take (k+1))=kQ row (ks.take k)++[if 0<=x/\x<(row.length:Int) then row.getD x.toNat zeroV else zeroV]:=by
 rw[gJ h,kQ,List.map_append];rfl
theorem CQ {row:List Val}{ks:List Int}{k m:Nat}{x:Int}{l:List Int}(h:ks.drop k=x::l)(c:k<m)(d:ks.length=m)(y:Val)(b:y=if 0<=x/\x<(row.length:Int) then row.getD x.toNat zeroV else zeroV):
  (kQ row (ks.take k)++List.replicate (m-k) zeroV).set k y=kQ row (ks.take (k+1))++List.replicate (m-(k+1)) zeroV:=by
 have a:(kQ row (ks.take k)).length=k:=by rw[kQ,List.length_map,List.length_take];omega
 rw[zo h,<-b,show m-k=(m-(k+1))+1 from by omega,List.replicate_succ,List.append_assoc];rw[List.set_append_right _ _ Ho,a,Nat.sub_self];rfl
theorem uq {row:List Val}{ks:List Int}{k m:Nat}{x:Int}{l:List Int}(h:ks.drop k=x::l)(b:k<m)(a:¬(0<=x/\x<(row.length:Int))):
  kQ row (ks.take k)++List.replicate (m-k) zeroV=kQ row (ks.take (k+1))++List.replicate (m-(k+1)) zeroV:=by
 rw[zo h,if_neg a,show m-k=(m-(k+1))+1 from by omega,List.replicate_succ,List.append_assoc];rfl
theorem OL.fz {α:Type}[Rep α]{e:TypeId}{B:Nat}{O:Nat->Prop}{T:List TypeId}{w:World}{g n c:Nat}{xs:List α}(h:OL e B O T w (.slice (some ⟨g,0,none⟩) n c) xs)(o:Nat):w.frozen? ⟨g,o,none⟩=false:=by
 obtain⟨c',a⟩:=(h.ty (g:=g) rfl).2;exact frozen_of_row w g o c' e a
theorem OL.cellV {B:Nat}{O:Nat->Prop}{T:List TypeId}{w:World}{g n c:Nat}{xs:List Val}(h:OL 67 B O T w (.slice (some ⟨g,0,none⟩) n c) xs)(r:xs.length=n){i:Nat}(hi:i<n): ∃k l m,w.cell? ⟨g,i*3,none⟩=some k/\w.cell? ⟨g,i*3+1,none⟩=some l/\w.cell? ⟨g,i*3+2,none⟩=some m:=by
 obtain⟨o,b,q⟩:=h.own;rcases b.2 with ⟨e,_⟩|⟨p,cap,a,e,hb,d,t,u,f,v⟩
 ·cases e
 ·injection e with e1 e2 e3;injection e1 with e1;injection e1 with e1;subst e1 e3;have s:n*3<=a.size:=by
   have j:a.size=c*3:=f;rw[j];exact Nat.mul_le_mul_right 3 Ho
  refine⟨a[i*3]'Ho,a[i*3+1]'Ho,a[i*3+2]'Ho,?_,?_,?_⟩;all_goals rw[cell_of_row w g _ a _ (0,0) d,Array.getElem?_eq_getElem Ho]
theorem Jv (w:World)(A:Option Addr)(n c:Nat)(row:List Val)(t:In w A n c row)(v:Option Addr)(a c2:Nat)(ks:List Int)(u:In w v a c2 ks)(Z:a<=4096):
  Calls Tryz.prog 90 #[.slice A n c,.slice v a c2] w
   λe w'=>(∃A' c',e=.returned (.slice A' a c')/\OL 67 w.heap.size (λ_=>False) [] w' (.slice A' a c') (kQ row ks))/\Below w.heap.size w w':=by
 obtain⟨M,hi,J,K,L⟩:=info_parts oO;have r:=Hm t;have l:=Hm u;have T:=t.le;have U:=u.le;clear t u;have I: ∀W,(Instr.makeSlice 52 (.int .i64 (a:Int)) (.int .i64 (a:Int))).run Tryz.prog W=.ok (.slice (some ⟨W.heap.size,0,none⟩) a a) (W.alloc (.cells (madeCells (Value.agg #[.int .i64 0,.int .i64 0,.string ⟨#[]⟩]).cells (a*3)) 67)):=λW=>by
  have h:=uO (P:=Tryz.prog) 52 67 M _ Tryz.underlying52 hi J .i64 .i64 a a IK (by rw[L];omega) Ho W;rw[K]at h;exact h
 have B:Hl (OL 67 w.heap.size (λ_=>False) [] (w.alloc (.cells (madeCells #[.int .i64 0,.int .i64 0,.string ⟨#[]⟩] (a*3)) 67)) (.slice (some ⟨w.heap.size,0,none⟩) a a) (List.replicate a zeroV)):=Hm (OL.zeros IK (by simp only[maxLen];omega));go_enter Tryz.func90,Tryz.ntmps90;go_wp2;go_loopw [13] (λi wr=> ∃k:Nat,k<=a/\i=.int .i64 k/\OL 67 w.heap.size (λ_=>False) [] wr (.slice (some ⟨w.heap.size,0,none⟩) a a) (kQ row (ks.take k)++List.replicate (a-k) zeroV)/\Below w.heap.size w wr) (λi _=>a-(RowKit.intOf i).toNat)
 case atStart=>exact⟨0,Nat.zero_le _,rfl,by simpa[kQ] using B.o,eB⟩
 case round=>
  clear I B;obtain⟨k,Y,rfl,D,hb⟩:=hrel;have g:=Hm D;have f:=Hm hb;clear D hb;by_cases j:k<a
  ·obtain⟨b,off,x,rfl,V,m,O,Q⟩:=(l.o.b f.o).int j;have k0:(0:Int)<=(k:Int):=by omega
   have k1:(k:Int)<(a:Int):=by omega
   by_cases G:0<=x
   ·by_cases H:x<(n:Int)
    ·obtain⟨N,aa,y,rfl,X,E,R,f1,S,F⟩:=(r.o.b f.o).val (k:=x.toNat) Ho;have s:(kQ row (ks.take k)++List.replicate (a-k) zeroV).length=a:=by
      rw[List.length_append,kQ,List.length_map,List.length_take,List.length_replicate,l.o.len];omega
     obtain⟨u0,u1,u2,c0,c1,c2⟩:=g.o.cellV s j;have z0:=g.o.fz (k*3);have z1:=g.o.fz (k*3+1);have z2:=g.o.fz (k*3+2);have q:=Hm (g.o.set3 s j F);have C:=CQ (row:=row) m.o j l.o.len y (by
      rw[if_pos ⟨G,by rw[r.o.len];exact H⟩];have:=(iI E.o).1;rw[List.getD_eq_getElem?_getD,this];rfl)
     rw[C]at q;have z:=Hm (((f.o.setCell (p:=⟨w.heap.size,k*3,none⟩) IK (.int .i64 y.kind)).setCell (p:=⟨w.heap.size,k*3+1,none⟩) IK (.int .i64 y.num)).setCell (p:=⟨w.heap.size,k*3+2,none⟩) IK (.string y.str));clear s C;go_wp2;go_roundw
     case rel=>exact⟨k+1,Ho,by go_num,by first|exact q.o|exact q.o.b (ib IJ),by first|exact z.o|exact ib z.o⟩
     case measure=>simp[RowKit.intOf];omega
    ·have d:=g.o;rw[uq (row:=row) m.o j (by rw[r.o.len];omega)]at d;have d:=Hm d;go_wp2
     (try go_quiet (fail))
     (try go_wp2);go_roundw
     case rel=>exact⟨k+1,Ho,by go_num,by first|exact d.o|exact d.o.b (ib IJ),by first|exact f.o|exact ib f.o⟩
     case measure=>simp[RowKit.intOf];omega
   ·have d:=g.o;rw[uq (row:=row) m.o j Ho]at d;have d:=Hm d;go_wp2
    (try go_quiet (fail))
    (try go_wp2);go_roundw
    case rel=>exact⟨k+1,Ho,by go_num,by first|exact d.o|exact d.o.b (ib IJ),by first|exact f.o|exact ib f.o⟩
    case measure=>simp[RowKit.intOf];omega
  ·have d:=g.o;rw[show a-k=0 from by omega,List.replicate_zero,List.append_nil,List.take_of_length_le (by rw[l.o.len];omega)]at d;have d:=Hm d;go_wp2;go_ret;exact⟨⟨_,_,rfl,d.o⟩,f.o⟩
theorem DJ (w:World)(A:Option Addr)(n c:Nat)(row:List Val)(i:In w A n c row)(b:Option Addr)(a c2:Nat)(ks:List Int)(j:In w b a c2 ks)(h:a<=4096):
  Calls Tryz.prog 54 #[.slice A n c,.slice b a c2] w
   λe w'=>(∃A' c',e=.returned (.slice A' a c')/\OL 67 w.heap.size (λ_=>False) [] w' (.slice A' a c') (kQ row ks))/\Below w.heap.size w w':=by
 go_enter Tryz.func54,Tryz.ntmps54;go_wp2_with fail;refine(Jv _ A n c row (by exact i) b a c2 ks (by exact j) h).mono ?_;rintro e k ⟨⟨A',c',rfl,d⟩,hb⟩;have g:=Hm d;have f:=Hm hb;clear d hb;go_wp2;go_ret;exact⟨⟨A',c',rfl,g.o⟩,f.o⟩
theorem Ju (w:World)(A:Option Addr)(n c:Nat)(row:List Val)(t:In w A n c row)(v:Option Addr)(a c2:Nat)(ks:List Int)(u:In w v a c2 ks)(Z:a<=4096):
  Calls Tryz.prog 107 #[.slice A n c,.slice v a c2] w
   λe w'=>(∃A' c',e=.returned (.slice A' a c')/\OL 67 w.heap.size (λ_=>False) [] w' (.slice A' a c') (kQ row ks))/\Below w.heap.size w w':=by
 obtain⟨M,hi,J,K,L⟩:=info_parts oO;have r:=Hm t;have l:=Hm u;have T:=t.le;have U:=u.le;clear t u;have I: ∀W,(Instr.makeSlice 52 (.int .i64 (a:Int)) (.int .i64 (a:Int))).run Tryz.prog W=.ok (.slice (some ⟨W.heap.size,0,none⟩) a a) (W.alloc (.cells (madeCells (Value.agg #[.int .i64 0,.int .i64 0,.string ⟨#[]⟩]).cells (a*3)) 67)):=λW=>by
  have h:=uO (P:=Tryz.prog) 52 67 M _ Tryz.underlying52 hi J .i64 .i64 a a IK (by rw[L];omega) Ho W;rw[K]at h;exact h
 have B:Hl (OL 67 w.heap.size (λ_=>False) [] (w.alloc (.cells (madeCells #[.int .i64 0,.int .i64 0,.string ⟨#[]⟩] (a*3)) 67)) (.slice (some ⟨w.heap.size,0,none⟩) a a) (List.replicate a zeroV)):=Hm (OL.zeros IK (by simp only[maxLen];omega));go_enter Tryz.func107,Tryz.ntmps107;go_wp2;go_loopw [6] (λi wr=> ∃k:Nat,k<=a/\i=.int .i64 k/\OL 67 w.heap.size (λ_=>False) [] wr (.slice (some ⟨w.heap.size,0,none⟩) a a) (kQ row (ks.take k)++List.replicate (a-k) zeroV)/\Below w.heap.size w wr) (λi _=>a-(RowKit.intOf i).toNat)
 case atStart=>exact⟨0,Nat.zero_le _,rfl,by simpa[kQ] using B.o,eB⟩
 case round=>
  clear I B;obtain⟨k,Y,rfl,D,hb⟩:=hrel;have g:=Hm D;have f:=Hm hb;clear D hb;by_cases j:k<a
  ·obtain⟨b,off,x,rfl,V,m,O,Q⟩:=(l.o.b f.o).int j;have k0:(0:Int)<=(k:Int):=by omega
   have k1:(k:Int)<(a:Int):=by omega
   by_cases G:0<=x
   ·by_cases H:x<(n:Int)
    ·obtain⟨N,aa,y,rfl,X,E,R,f1,S,F⟩:=(r.o.b f.o).val (k:=x.toNat) Ho;have s:(kQ row (ks.take k)++List.replicate (a-k) zeroV).length=a:=by
      rw[List.length_append,kQ,List.length_map,List.length_take,List.length_replicate,l.o.len];omega
     obtain⟨u0,u1,u2,c0,c1,c2⟩:=g.o.cellV s j;have z0:=g.o.fz (k*3);have z1:=g.o.fz (k*3+1);have z2:=g.o.fz (k*3+2);have q:=Hm (g.o.set3 s j F);have C:=CQ (row:=row) m.o j l.o.len y (by
      rw[if_pos ⟨G,by rw[r.o.len];exact H⟩];have:=(iI E.o).1;rw[List.getD_eq_getElem?_getD,this];rfl)
     rw[C]at q;have z:=Hm (((f.o.setCell (p:=⟨w.heap.size,k*3,none⟩) IK (.int .i64 y.kind)).setCell (p:=⟨w.heap.size,k*3+1,none⟩) IK (.int .i64 y.num)).setCell (p:=⟨w.heap.size,k*3+2,none⟩) IK (.string y.str));clear s C;go_wp2;go_roundw
     case rel=>exact⟨k+1,Ho,by go_num,by first|exact q.o|exact q.o.b (ib IJ),by first|exact z.o|exact ib z.o⟩
     case measure=>simp[RowKit.intOf];omega
    ·have d:=g.o;rw[uq (row:=row) m.o j (by rw[r.o.len];omega)]at d;have d:=Hm d;go_wp2
     (try go_quiet (fail))
     (try go_wp2);go_roundw
     case rel=>exact⟨k+1,Ho,by go_num,by first|exact d.o|exact d.o.b (ib IJ),by first|exact f.o|exact ib f.o⟩
     case measure=>simp[RowKit.intOf];omega
   ·have d:=g.o;rw[uq (row:=row) m.o j Ho]at d;have d:=Hm d;go_wp2
    (try go_quiet (fail))
    (try go_wp2);go_roundw
    case rel=>exact⟨k+1,Ho,by go_num,by first|exact d.o|exact d.o.b (ib IJ),by first|exact f.o|exact ib f.o⟩
    case measure=>simp[RowKit.intOf];omega
  ·have d:=g.o;rw[show a-k=0 from by omega,List.replicate_zero,List.append_nil,List.take_of_length_le (by rw[l.o.len];omega)]at d;have d:=Hm d;go_wp2;go_ret;exact⟨⟨_,_,rfl,d.o⟩,f.o⟩
end Go.Proofs.YthnelebakkggjaaGreatDoor
