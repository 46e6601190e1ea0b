/-
  Worlds that only grew: draws and new blocks behind (what a comparison inside a sort may leave); value.Compare, slices.CompareFunc and value.CompareRows leave no more; the closure of bag.sum.
-/
import Derived.Shelf.SlSortCmp.WholeK
import Derived.Test.YtopjjlmfilgngaaGreatDoorGad
namespace Go.Proofs.YtopjjlmfilgngaaGreatDoor
set_option linter.unusedVariables false
set_option linter.unusedSimpArgs false
open Go.RowKit
def Gr (w w':World):Prop:= ∃q os,w'=Sort.grow (w.drewN q) os
theorem Gr.refl (w:World):Gr w w:=⟨0,#[],by simp[Sort.grow_empty,World.drewN_zero]⟩
theorem Ba (w:World)(os:Array Obj)(n:Nat):(Sort.grow w os).drewN n=Sort.grow (w.drewN n) os:=rfl
theorem Gr.trans {a b c:World}(h:Gr a b)(h':Gr b c):Gr a c:=by
 obtain ⟨q,os,rfl⟩:=h;obtain ⟨q',os',rfl⟩:=h';exact ⟨q+q',os++os',by rw[Ba,World.drewN_drewN,Sort.grow_grow]⟩
theorem Fz (w:World)(o:Obj):Gr w (w.alloc o):=⟨0,#[o],by rw[World.drewN_zero,Sort.alloc_eq_grow]⟩
theorem yI (w:World)(n:Nat):Gr w (w.drewN n):=⟨n,#[],by simp[Sort.grow_empty]⟩
theorem Jr (w:World):Gr w w.drew:=yI w 1
theorem Gr.alloc {a b:World}(h:Gr a b)(o:Obj):Gr a (b.alloc o):=h.trans (Fz _ _)
theorem Gr.drew {a b:World}(h:Gr a b):Gr a b.drew:=h.trans (Jr _)
theorem Gr.drewN {a b:World}(h:Gr a b)(n:Nat):Gr a (b.drewN n):=h.trans (yI _ _)
theorem Gr.below {a b:World}(h:Gr a b):Below a.heap.size a b:=by
 obtain ⟨q,os,rfl⟩:=h;exact ⟨rfl,rfl,rfl,by rw[Sort.size_grow];exact Nat.le_add_right _ _,λi hi=>Sort.heap_grow_old _ _ hi⟩
end Go.Proofs.YtopjjlmfilgngaaGreatDoor
