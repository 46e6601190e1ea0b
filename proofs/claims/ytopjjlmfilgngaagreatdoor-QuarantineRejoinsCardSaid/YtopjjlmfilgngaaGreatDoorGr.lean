/-
  Worlds that only grew: draws and new blocks behind (what a comparison inside a sort may leave); value.Compare, slices.CompareFunc and value.CompareRows leave no more; the closure of bag.sum.
-/
import Derived.Shelf.SlSortCmp.WholeK
import Derived.Test.YtopjjlmfilgngaaGreatDoorGad
namespace Go.Proofs.YtopjjlmfilgngaaGreatDoor
set_option maxRecDepth 100000
set_option linter.unusedVariables false
set_option linter.unusedSimpArgs false
open Go.RowKit
def Gr (w w':World):Prop:= ∃q os,w'=Sort.grow (w.drewN q) os
theorem Gr.refl (w:World):Gr w w:=⟨0,#[],by simp[Sort.grow_empty,World.drewN_zero]⟩
theorem Ba (w:World)(os:Array Obj)(n:Nat):(Sort.grow w os).drewN n=Sort.grow (w.drewN n) os:=rfl
theorem Gr.trans {a b c:World}(h:Gr a b)(h':Gr b c):Gr a c:=by
 obtain ⟨q,os,rfl⟩:=h;obtain ⟨q',os',rfl⟩:=h';exact ⟨q+q',os++os',by rw[Ba,World.drewN_drewN,Sort.grow_grow]⟩
theorem Fz (w:World)(o:Obj):Gr w (w.alloc o):=⟨0,#[o],by rw[World.drewN_zero,Sort.alloc_eq_grow]⟩
theorem yI (w:World)(n:Nat):Gr w (w.drewN n):=⟨n,#[],by simp[Sort.grow_empty]⟩
theorem Jr (w:World):Gr w w.drew:=yI w 1
theorem Gr.alloc {a b:World}(h:Gr a b)(o:Obj):Gr a (b.alloc o):=h.trans (Fz _ _)
theorem Gr.drew {a b:World}(h:Gr a b):Gr a b.drew:=h.trans (Jr _)
theorem Gr.drewN {a b:World}(h:Gr a b)(n:Nat):Gr a (b.drewN n):=h.trans (yI _ _)
theorem Gr.below {a b:World}(h:Gr a b):Below a.heap.size a b:=by
 obtain ⟨q,os,rfl⟩:=h;exact ⟨rfl,rfl,rfl,by rw[Sort.size_grow];exact Nat.le_add_right _ _,λi hi=>Sort.heap_grow_old _ _ hi⟩
theorem cmp_valG (a b:Val)(w:World):
  Calls Tryz.prog 58 #[.agg a.cells.toArray,.agg b.cells.toArray] w λe w'=>e=.returned (.int .i64 (bD a b))/\Gr w w':=by
 obtain ⟨k,n,s⟩:=a;obtain ⟨k',n',s'⟩:=b;simp only[Val.cells];go_enter Tryz.func58,Tryz.ntmps58;go_wp2_with fail;generalize hW:((w.alloc _).alloc _)=W;have c0:W.cell? ⟨w.heap.size,0,none⟩=some (.int .i64 k):=by subst hW;simp[World.cell?_alloc_lt,go_sem]
 have c1:W.cell? ⟨w.heap.size,1,none⟩=some (.int .i64 n):=by subst hW;simp[World.cell?_alloc_lt,go_sem]
 have c2:W.cell? ⟨w.heap.size,2,none⟩=some (.string s):=by subst hW;simp[World.cell?_alloc_lt,go_sem]
 have d0:W.cell? ⟨w.heap.size+1,0,none⟩=some (.int .i64 k'):=by subst hW;simp[go_sem]
 have d1:W.cell? ⟨w.heap.size+1,1,none⟩=some (.int .i64 n'):=by subst hW;simp[go_sem]
 have d2:W.cell? ⟨w.heap.size+1,2,none⟩=some (.string s'):=by subst hW;simp[go_sem]
 have hb:Gr w W:=by subst hW;exact (Fz _ _).alloc _
 clear hW;go_region_held3 (λw'=>w'.cell? ⟨w.heap.size,0,none⟩=some (.int .i64 k)/\w'.cell? ⟨w.heap.size,1,none⟩=some (.int .i64 n)/\w'.cell? ⟨w.heap.size,2,none⟩=some (.string s)
   /\w'.cell? ⟨w.heap.size+1,0,none⟩=some (.int .i64 k')/\w'.cell? ⟨w.heap.size+1,1,none⟩=some (.int .i64 n')/\w'.cell? ⟨w.heap.size+1,2,none⟩=some (.string s')) (go_keep)
  (first|(go_at_call 82;refine (IK _ _ _).mono ?_;rintro e w' ⟨rfl,rfl⟩)|(go_at_call 83;refine (IL _ _ _).mono ?_;rintro e w' ⟨rfl,rfl⟩)|(go_at_call 81;refine (Gb (eD k k') (eD n n') (dY s s') _ _ ?_ ?_ ?_).mono ?_;(simp[go_sem]);(simp[go_sem]);(simp[go_sem]);rintro e w' ⟨rfl,rfl⟩))
 go_wp2;go_ret;exact ⟨rfl,(hb.alloc _).drew⟩
theorem compareFunc_anyG (w:World)(A A':Option Addr)(n n' c c':Nat)(xs ys:List Val)(hx:In w A n c xs)(hy:In w A' n' c' ys):
  Calls Tryz.prog 57 #[.slice A n c,.slice A' n' c',.func (.func 58) #[] #[]] w
   λe w'=>e=.returned (.int .i64 (ah xs ys))/\Gr w w':=by
 have h63:=hx.le;have h63':=hy.le;go_enter Tryz.func57,Tryz.ntmps57;go_wp2;go_loopw [13] (λi wr=> ∃k:Nat,k<=n/\k<=n'/\i=.int .i64 k/\ah xs ys=ah (xs.drop k) (ys.drop k)/\Gr w wr) (λi _=>n-(intOf i).toNat)
 case atStart=>exact ⟨0,Nat.zero_le _,Nat.zero_le _,rfl,rfl,Gr.refl _⟩
 case round=>
  obtain ⟨k,hk,hk',rfl,heq,hb⟩:=hrel;have HE:=hide heq;clear heq;by_cases hlt:k<n
  ·obtain ⟨b,off,x,rfl,hB,HX,e0,e1,e2,e3⟩:=(hx.below hb.below).val hlt;by_cases hlt':k<n'
   ·obtain ⟨b',off',y,rfl,hB',HY,f0,f1,f2,f3⟩:=(hy.below hb.below).val hlt';go_wp2_with fail;refine (cmp_valG x y _).mono ?_;rintro e w1 ⟨rfl,hb1⟩;have hbb:=((hb.alloc _).alloc _).trans hb1;clear hb1 e0 e1 e2 f0 f1 f2;by_cases hz:bD x y=0
    ·rw[hz];go_wp2;go_roundw
     case rel=>exact ⟨k+1,by omega,by omega,by go_num,by rw[HE.out,HX.out,HY.out,ah,if_neg (by simp[hz])],hbb⟩
     case measure=>simp[intOf];omega
    ·have hz':(bD x y==0)=false:=by simp[hz]
     go_wp2;go_ret;exact ⟨ai (by rw[HE.out,HX.out,HY.out,ah,if_pos hz]),hbb⟩
   ·go_wp2;go_ret;exact ⟨ai (by rw[HE.out,HX.out,aD hy.len (by omega),ah]),hb.alloc _⟩
  ·have hkn:n<=k:=by omega
   by_cases hlt':n<n'
   ·go_wp2;go_ret;refine ⟨ai ?_,hb⟩;rw[HE.out,aD hx.len hkn];have:ys.drop k≠[]:=by intro h;have:=congrArg List.length h;rw[List.length_drop,hy.len]at this;simp at this;omega
    match h:ys.drop k with
    | []=>exact absurd h this
    | _ :: _=>rw[ah]
   ·go_wp2;go_ret;refine ⟨ai ?_,hb⟩;rw[HE.out,aD hx.len hkn,aD hy.len (by omega),ah]
theorem compareRows_anyG (w:World)(A A':Option Addr)(n n' c c':Nat)(xs ys:List Val)(hx:In w A n c xs)(hy:In w A' n' c' ys):
  Calls Tryz.prog 31 #[.slice A n c,.slice A' n' c'] w λe w'=>e=.returned (.int .i64 (ah xs ys))/\Gr w w':=by
 go_enter Tryz.func31,Tryz.ntmps31;go_wp2_with fail;refine (compareFunc_anyG _ _ _ _ _ _ _ xs ys hx hy).mono ?_;rintro e w1 ⟨rfl,hb1⟩;go_wp2;go_ret;exact ⟨rfl,hb1⟩
end Go.Proofs.YtopjjlmfilgngaaGreatDoor
