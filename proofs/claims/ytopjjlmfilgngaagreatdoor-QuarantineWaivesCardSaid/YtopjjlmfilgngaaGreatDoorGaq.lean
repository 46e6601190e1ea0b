/-
  Worlds that only grew: draws and new blocks behind (what a comparison inside a sort may leave); value.Compare, slices.CompareFunc and value.CompareRows leave no more; the closure of bag.sum. slices.SortFunc at a row of the call's own, of any element: the row holds a sorted permutation of what it held. No program is in sight. bag.Normalize; partition.Join.
-/
import Derived.Shelf.SlSortCmp.WholeK
import Derived.Shelf.SlSortCmp.NoneTotal
import Derived.Test.YtopjjlmfilgngaaGreatDoorGad
import Derived.Test.YtopjjlmfilgngaaGreatDoorGae
import Derived.Test.YtopjjlmfilgngaaGreatDoorGaa
import Derived.Test.YtopjjlmfilgngaaGreatDoorGao
import Derived.Test.YtopjjlmfilgngaaGreatDoorGak
namespace Go.Proofs.YtopjjlmfilgngaaGreatDoor
set_option linter.unusedVariables false
set_option linter.unusedSimpArgs false
open Go.RowKit
def Gr (w w':World):Prop:= ∃q os,w'=Sort.grow (w.drewN q) os
theorem Gr.refl (w:World):Gr w w:=⟨0,#[],by simp[Sort.grow_empty,World.drewN_zero]⟩
theorem Hl (w:World)(os:Array Obj)(n:Nat):(Sort.grow w os).drewN n=Sort.grow (w.drewN n) os:=rfl
theorem Gr.trans {a b c:World}(h:Gr a b)(h':Gr b c):Gr a c:=by
 obtain ⟨q,os,rfl⟩:=h;obtain ⟨q',os',rfl⟩:=h';exact ⟨q+q',os++os',by rw[Hl,World.drewN_drewN,Sort.grow_grow]⟩
theorem Nr (w:World)(o:Obj):Gr w (w.alloc o):=⟨0,#[o],by rw[World.drewN_zero,Sort.alloc_eq_grow]⟩
theorem Ff (w:World)(n:Nat):Gr w (w.drewN n):=⟨n,#[],by simp[Sort.grow_empty]⟩
theorem QN (w:World):Gr w w.drew:=Ff w 1
theorem Gr.alloc {a b:World}(h:Gr a b)(o:Obj):Gr a (b.alloc o):=h.trans (Nr _ _)
theorem Gr.drew {a b:World}(h:Gr a b):Gr a b.drew:=h.trans (QN _)
theorem Gr.drewN {a b:World}(h:Gr a b)(n:Nat):Gr a (b.drewN n):=h.trans (Ff _ _)
theorem Gr.below {a b:World}(h:Gr a b):Below a.heap.size a b:=by
 obtain ⟨q,os,rfl⟩:=h;exact ⟨rfl,rfl,rfl,by rw[Sort.size_grow];exact Nat.le_add_right _ _,λi hi=>Sort.heap_grow_old _ _ hi⟩
theorem Ck {β:Type}{enc:β->List Value}{k:Nat}(hk: ∀x,(enc x).length=k): ∀(l:List β) (i j:Nat) (hi:i<l.length),j<k->(l.flatMap enc)[i*k+j]?=(enc l[i])[j]?
 | [],i,j,hi,_=>absurd hi (by simp)
 |x :: l,0,j,_,hj=>by
  rw[List.flatMap_cons,Nat.zero_mul,Nat.zero_add,List.getElem?_append_left (by rw[hk];exact hj)];rfl
 |x :: l,i+1,j,hi,hj=>by
  rw[List.flatMap_cons,List.getElem?_append_right (by rw[hk,Nat.add_mul];omega),hk,show (i+1)*k+j-k=i*k+j from by rw[Nat.add_mul];omega];exact Ck hk l i j (by simpa using hi) hj
theorem su {β:Type}{enc:β->List Value}{k:Nat}(hk: ∀x,(enc x).length=k): ∀(l:List β),(l.flatMap enc).length=l.length*k
 | []=>by simp
 |x :: l=>by rw[List.flatMap_cons,List.length_append,hk,su hk l,List.length_cons,Nat.add_mul];omega
section
variable {P:Program}{ρ:Shelf.Ren}
end
theorem SrcAt.alloc {w:World}{o:Obj}{size n:Nat}{A:Option Addr}{cs:List Value}(h:Src w size A n cs):Src (w.alloc o) size A n cs:=⟨h.1,λh0=>by
 obtain ⟨b',o',e,hc⟩:=h.2 h0;exact ⟨b',o',e,λj u hu=>ah ae (lt_of_cell (hc j u hu)) (hc j u hu)⟩⟩
end Go.Proofs.YtopjjlmfilgngaaGreatDoor
