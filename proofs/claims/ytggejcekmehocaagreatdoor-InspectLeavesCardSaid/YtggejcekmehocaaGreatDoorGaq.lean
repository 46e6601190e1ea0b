/-
  Worlds that only grew: draws and new blocks behind (what a comparison inside a sort may leave); value.Compare, slices.CompareFunc and value.CompareRows leave no more; the closure of bag.sum. slices.SortFunc at a row of the call's own, of any element: the row holds a sorted permutation of what it held. No program is in sight. bag.sum: slices.Clone of entries, slices.SortFunc with bag.sum's closure, the loops; bag.Normalize. (The laying is what the kit's lay-plain.mjs wrote, numbers turned to names.) bag.Normalize; partition.Join.
-/
import Derived.Shelf.SlSortCmp.WholeK
import Derived.Shelf.SlSortCmp.NoneTotal
import Derived.Test.YtggejcekmehocaaGreatDoorGad
import Derived.Test.YtggejcekmehocaaGreatDoorGae
import Derived.Test.YtggejcekmehocaaGreatDoorGaa
import Derived.Test.YtggejcekmehocaaGreatDoorGan
import Derived.Test.YtggejcekmehocaaGreatDoorGai
namespace Go.Proofs.YtggejcekmehocaaGreatDoor
set_option maxHeartbeats 1000000
set_option maxRecDepth 100000
set_option linter.unusedVariables false
set_option linter.unusedSimpArgs false
open Go.RowKit
def Gr (w w':World):Prop:= ∃q os,w'=Sort.grow (w.drewN q) os
theorem Gr.refl (w:World):Gr w w:=⟨0,#[],by simp[Sort.grow_empty,World.drewN_zero]⟩
theorem grow_drewN (w:World)(os:Array Obj)(n:Nat):(Sort.grow w os).drewN n=Sort.grow (w.drewN n) os:=rfl
theorem Gr.trans {a b c:World}(h:Gr a b)(h':Gr b c):Gr a c:=by
 obtain ⟨q,os,rfl⟩:=h
 obtain ⟨q',os',rfl⟩:=h'
 exact ⟨q+q',os++os',by rw[grow_drewN,World.drewN_drewN,Sort.grow_grow]⟩
theorem gr_alloc (w:World)(o:Obj):Gr w (w.alloc o):=⟨0,#[o],by rw[World.drewN_zero,Sort.alloc_eq_grow]⟩
theorem gr_drewN (w:World)(n:Nat):Gr w (w.drewN n):=⟨n,#[],by simp[Sort.grow_empty]⟩
theorem gr_drew (w:World):Gr w w.drew:=gr_drewN w 1
theorem Gr.alloc {a b:World}(h:Gr a b)(o:Obj):Gr a (b.alloc o):=h.trans (gr_alloc _ _)
theorem Gr.drew {a b:World}(h:Gr a b):Gr a b.drew:=h.trans (gr_drew _)
theorem Gr.drewN {a b:World}(h:Gr a b)(n:Nat):Gr a (b.drewN n):=h.trans (gr_drewN _ _)
theorem Gr.below {a b:World}(h:Gr a b):Below a.heap.size a b:=by
 obtain ⟨q,os,rfl⟩:=h
 exact ⟨rfl,rfl,rfl,by rw[Sort.size_grow];exact Nat.le_add_right _ _,λi hi=>Sort.heap_grow_old _ _ hi⟩
theorem flatV_get {β:Type}{enc:β->List Value}{k:Nat}(hk: ∀x,(enc x).length=k): ∀(l:List β) (i j:Nat) (hi:i<l.length),j<k->(l.flatMap enc)[i*k+j]?=(enc l[i])[j]?
 | [],i,j,hi,_=>absurd hi (by simp)
 |x :: l,0,j,_,hj=>by
  rw[List.flatMap_cons,Nat.zero_mul,Nat.zero_add,List.getElem?_append_left (by rw[hk];exact hj)]
  rfl
 |x :: l,i+1,j,hi,hj=>by
  rw[List.flatMap_cons,List.getElem?_append_right (by rw[hk,Nat.add_mul];omega),hk,show (i+1)*k+j-k=i*k+j from by rw[Nat.add_mul];omega]
  exact flatV_get hk l i j (by simpa using hi) hj
theorem flatV_len {β:Type}{enc:β->List Value}{k:Nat}(hk: ∀x,(enc x).length=k): ∀(l:List β),(l.flatMap enc).length=l.length*k
 | []=>by simp
 |x :: l=>by rw[List.flatMap_cons,List.length_append,hk,flatV_len hk l,List.length_cons,Nat.add_mul];omega
section
variable {P:Program}{ρ:Shelf.Ren}
end
open Go.RowKit Go.Shelf
theorem clone_ents (w:World)(A:Option Addr)(n c:Nat)(xs:List Ent)(hx:In w A n c xs)(hn:n<=1048576):
  Calls Tryz.prog 71 #[.slice A n c] w λe w'=>(∃A' c',e=.returned (.slice A' n c')/\OL 61 w.heap.size (λ_=>True) [] w' (.slice A' n c') xs)/\Below w.heap.size w w':=by
 have kn:=λ(W:World) (a:Option Addr) (l c:Nat)=>Lib.run_eql_slice_nil (P:=Tryz.prog) W 30 61 a l c 0 0 Tryz.underlying30
 have hlen:=hx.len
 cases A with
 |none=>
  have h0:c=0:=hx.2.2.2.1 rfl
  have h1:n=0:=by have:=hx.2.1;omega
  subst h0 h1
  have he:xs=[]:=List.eq_nil_of_length_eq_zero hx.1
  subst he
  clear hlen
  go_enter Tryz.func71,Tryz.ntmps71
  go_wp2
  go_ret
  exact ⟨⟨_,_,rfl,OL.nil (Nat.le_refl _)⟩,Below.refl _ _⟩
 |some ad=>
  have hb0:Below w.heap.size w (w.alloc (.cells #[] 61)):=below_alloc
  obtain ⟨cs,HC,HS⟩:=Sl.cells hx
  have HC:=hide ((HC.keep (Same.below hb0)).mono λk hk=>(show BS w.heap.size (λ_=>True) [] (w.alloc (.cells #[] 61)) k from .inl ⟨trivial,hk⟩))
  have HO:Hid (OL (α:=Ent) 61 w.heap.size (λ_=>True) [] (w.alloc (.cells #[] 61)) (.slice (some ⟨w.heap.size,0,none⟩) 0 0) []):=hide ⟨⟨[],World.ownsRow_made w #[] 0 (Nat.le_refl _) (by decide) rfl,rfl⟩,hb0.size⟩
  have HSR:Hid (Src (w.alloc (.cells #[] 61)) 2 (some ad) n cs):=hide ⟨HS.1,λh=>by
   obtain ⟨b,off,e,hj⟩:=HS.2 h
   exact ⟨b,off,e,λj u hu=>by
    have hc:=hj j u hu
    exact bat hb0 (lt_of_cell hc) hc⟩⟩
  have HL:=hide hlen
  clear hlen
  go_enter Tryz.func71,Tryz.ntmps71
  go_wp2_with (at_builtin;refine wpList_append_OL _ rfl _ _ _ rfl elem_ents (by simp) HO.out rfl (some ad) n c cs xs rfl (λh=>by cases h) HSR.out HC.out HL.out (by simp only[maxLen,List.length_nil];omega) (by simp only[List.length_nil];omega) ?_;intro v1 w3 ho3 hb3 hg3 hat3)
  go_ret
  obtain ⟨A9,c9,e9⟩:=ho3.form
  have HO3:=hide ho3
  clear ho3
  subst e9
  rw[List.nil_append]at HO3
  rw[List.nil_append,HL.out]at*
  exact ⟨⟨_,_,rfl,HO3.out⟩,hb0.trans hb3⟩
theorem SrcAt.alloc {w:World}{o:Obj}{size n:Nat}{A:Option Addr}{cs:List Value}(h:Src w size A n cs):Src (w.alloc o) size A n cs:=⟨h.1,λh0=>by
 obtain ⟨b',o',e,hc⟩:=h.2 h0
 exact ⟨b',o',e,λj u hu=>bat below_alloc (lt_of_cell (hc j u hu)) (hc j u hu)⟩⟩
end Go.Proofs.YtggejcekmehocaaGreatDoor
