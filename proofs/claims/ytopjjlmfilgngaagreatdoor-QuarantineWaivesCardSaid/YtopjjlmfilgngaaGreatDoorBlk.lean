/-
  A block that is known whole: what it holds behind stores, calls, allocations. No program is in sight.
-/
import Derived.Deep.DrawnRows
import Derived.Deep.DeepCutAuto
import Derived.Test.YtopjjlmfilgngaaGreatDoorGae
namespace Go.Proofs.YtopjjlmfilgngaaGreatDoor
open Go.RowKit
set_option linter.unusedSimpArgs false
set_option linter.unusedVariables false
def dC (w:World)(g:Nat)(t:TypeId)(l:List Value):Prop:=w.heap[g]?=some (.cells l.toArray t (0,0))
section
variable {w w1:World}{g b k B:Nat}{t:TypeId}{l:List Value}{v:Value}
theorem dC.ty (h:dC w g t l):dm w t g:=⟨_,h⟩
theorem dC.lt (h:dC w g t l):g<w.heap.size:=h.ty.lt
theorem dC.at (h:dC w g t l)(k:Nat){v:Value}(hv:l[k]?=some v):w.cell? ⟨g,k,none⟩=some v:=by
 rw[cell_of_row w g k _ _ _ h];simpa using hv
theorem dC.fz (h:dC w g t l)(k:Nat):w.frozen? ⟨g,k,none⟩=false:=frozen_of_row w g k _ _ h
theorem dC.below (h:dC w g t l)(hb:Below w.heap.size w w1):dC w1 g t l:=(hb.block g h.lt).trans h
theorem dC.grown {row:Option Nat}(h:dC w g t l)(hg:w.grownBy w1 row)(hne:some g≠row):dC w1 g t l:=(hg.block g h.lt hne).trans h
theorem dC.drew (h:dC w g t l):dC w.drew g t l:=h
theorem dC.drewN (h:dC w g t l)(n:Nat):dC (w.drewN n) g t l:=h
theorem dC.made (w:World)(a:Array Value)(t:TypeId):dC (w.alloc (.cells a t)) w.heap.size t a.toList:=by
 show _=some (Obj.cells a.toList.toArray t (0,0));simpa using heap_alloc_new w (.cells a t)
theorem dC.set (h:dC w g t l)(k:Nat)(v:Value):dC (w.setCell ⟨g,k,none⟩ v) g t (l.set k v):=by
 have h':w.heap[g]?=some (.cells l.toArray t (0,0)):=h;show _=some (Obj.cells (l.set k v).toArray t (0,0));simp[World.setCell,Array.getElem?_modify,h']
theorem dC.far (h:dC w g t l)(hne:g≠b)(k:Nat)(v:Value):dC (w.setCell ⟨b,k,none⟩ v) g t l:=by
 rw[dC,Below.heap_setCell _ _ _ _ (show g≠b from hne)];exact h
theorem dC.all (h:dC w g t l): ∀j v,l[j]?=some v->w.cell? ⟨g,j,none⟩=some v:=λj v hv=>h.at j hv
theorem dC.ats2 {v0 v1:Value}(h:dC w g t [v0,v1]):g<w.heap.size/\w.cell? ⟨g,0,none⟩=some v0/\w.cell? ⟨g,1,none⟩=some v1:=⟨h.lt,h.at 0 rfl,h.at 1 rfl⟩
theorem dC.ats4 {v0 v1 v2 v3:Value}(h:dC w g t [v0,v1,v2,v3]):g<w.heap.size/\w.cell? ⟨g,0,none⟩=some v0/\w.cell? ⟨g,1,none⟩=some v1/\w.cell? ⟨g,2,none⟩=some v2/\w.cell? ⟨g,3,none⟩=some v3:=⟨h.lt,h.at 0 rfl,h.at 1 rfl,h.at 2 rfl,h.at 3 rfl⟩
theorem dC.ats14 {v0 v1 v2 v3 v4 v5 v6 v7 v8 v9 v10 v11 v12 v13:Value}(h:dC w g t [v0,v1,v2,v3,v4,v5,v6,v7,v8,v9,v10,v11,v12,v13]):g<w.heap.size/\w.cell? ⟨g,0,none⟩=some v0/\w.cell? ⟨g,1,none⟩=some v1/\w.cell? ⟨g,2,none⟩=some v2/\w.cell? ⟨g,3,none⟩=some v3/\w.cell? ⟨g,4,none⟩=some v4/\w.cell? ⟨g,5,none⟩=some v5/\w.cell? ⟨g,6,none⟩=some v6/\w.cell? ⟨g,7,none⟩=some v7/\w.cell? ⟨g,8,none⟩=some v8/\w.cell? ⟨g,9,none⟩=some v9/\w.cell? ⟨g,10,none⟩=some v10/\w.cell? ⟨g,11,none⟩=some v11/\w.cell? ⟨g,12,none⟩=some v12/\w.cell? ⟨g,13,none⟩=some v13:=⟨h.lt,h.at 0 rfl,h.at 1 rfl,h.at 2 rfl,h.at 3 rfl,h.at 4 rfl,h.at 5 rfl,h.at 6 rfl,h.at 7 rfl,h.at 8 rfl,h.at 9 rfl,h.at 10 rfl,h.at 11 rfl,h.at 12 rfl,h.at 13 rfl⟩
theorem dC.set2 (h:dC w g t l){a0 a1:Value}(hl:l.length=2):dC ((w.setCell ⟨g,0,none⟩ a0).setCell ⟨g,1,none⟩ a1) g t [a0,a1]:=by
 have h1:=(h.set 0 a0).set 1 a1
 match l,hl with
 | [_,_],_=>exact h1
theorem dC.set3 (h:dC w g t l){a0 a1 a2:Value}(hl:l.length=3):dC (((w.setCell ⟨g,0,none⟩ a0).setCell ⟨g,1,none⟩ a1).setCell ⟨g,2,none⟩ a2) g t [a0,a1,a2]:=by
 have h1:=((h.set 0 a0).set 1 a1).set 2 a2
 match l,hl with
 | [_,_,_],_=>exact h1
theorem dC.set4 (h:dC w g t l){a0 a1 a2 a3:Value}(hl:l.length=4):dC ((((w.setCell ⟨g,0,none⟩ a0).setCell ⟨g,1,none⟩ a1).setCell ⟨g,2,none⟩ a2).setCell ⟨g,3,none⟩ a3) g t [a0,a1,a2,a3]:=by
 have h1:=(((h.set 0 a0).set 1 a1).set 2 a2).set 3 a3
 match l,hl with
 | [_,_,_,_],_=>exact h1
end
theorem BX {B:Nat}{a w:World}{g:Nat}(h:Below B a w)(hg:B<=g)(k:Nat)(v:Value):Below B a (w.setCell ⟨g,k,none⟩ v):=h.setCell hg v
theorem OL.off {α:Type}[Rep α]{e:TypeId}{B:Nat}{O:Nat->Prop}{T:List TypeId}{w:World}{v:Value}{xs:List α}(h:OL e B O T w v xs){t g:Nat}(hg:dm w t g)(hB:B<=g\/ ∀k,¬O k)(hne:t≠e)(hT:t∉T)(o:Nat)(u:Value):OL e B O T (w.setCell ⟨g,o,none⟩ u) v xs:=
 h.kept (λk hk=>Below.heap_setCell _ _ _ k (λq=>by
  have q:k=g:=q;subst q;rcases hk with (⟨ho,hk⟩|⟨_,t',ht',hk⟩)|hk
  ·rcases hB with hB|hB
   ·omega
   ·exact hB _ ho
  ·exact dm.ne hg hk (λe'=>hT (e'▸ht')) rfl
  ·exact dm.ne hg (h.ty hk).2 hne rfl)) (by simp[World.setCell])
end Go.Proofs.YtopjjlmfilgngaaGreatDoor
