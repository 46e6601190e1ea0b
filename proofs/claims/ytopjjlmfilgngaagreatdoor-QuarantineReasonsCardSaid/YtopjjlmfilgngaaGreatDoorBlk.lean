/-
  A block that is known whole: what it holds behind stores, calls, allocations. No program is in sight.
-/
import Derived.Deep.DrawnRows
import Derived.Deep.DeepCutAuto
import Derived.Test.YtopjjlmfilgngaaGreatDoorGae
namespace Go.Proofs.YtopjjlmfilgngaaGreatDoor
open Go.RowKit
set_option linter.unusedSimpArgs false
set_option linter.unusedVariables false
def jo (w:World)(g:Nat)(t:TypeId)(l:List Value):Prop:=w.heap[g]?=some (.cells l.toArray t (0,0))
section
variable {w c:World}{g b k B:Nat}{t:TypeId}{l:List Value}{v:Value}
theorem jo.ty (h:jo w g t l):iF w t g:=⟨_,h⟩
theorem jo.lt (h:jo w g t l):g<w.heap.size:=h.ty.lt
theorem jo.at (h:jo w g t l)(k:Nat){v:Value}(a:l[k]?=some v):w.cell? ⟨g,k,none⟩=some v:=by
 rw[cell_of_row w g k _ _ _ h];simpa using a
theorem jo.fz (h:jo w g t l)(k:Nat):w.frozen? ⟨g,k,none⟩=false:=frozen_of_row w g k _ _ h
theorem jo.below (h:jo w g t l)(hb:Below w.heap.size w c):jo c g t l:=(hb.block g h.lt).trans h
theorem jo.grown {row:Option Nat}(h:jo w g t l)(a:w.grownBy c row)(d:some g≠row):jo c g t l:=(a.block g h.lt d).trans h
theorem jo.drew (h:jo w g t l):jo w.drew g t l:=h
theorem jo.drewN (h:jo w g t l)(n:Nat):jo (w.drewN n) g t l:=h
theorem jo.made (w:World)(a:Array Value)(t:TypeId):jo (w.alloc (.cells a t)) w.heap.size t a.toList:=by
 show _=some (Obj.cells a.toList.toArray t (0,0));simpa using heap_alloc_new w (.cells a t)
theorem jo.set (h:jo w g t l)(k:Nat)(v:Value):jo (w.setCell ⟨g,k,none⟩ v) g t (l.set k v):=by
 have a:w.heap[g]?=some (.cells l.toArray t (0,0)):=h;show _=some (Obj.cells (l.set k v).toArray t (0,0));simp[World.setCell,Array.getElem?_modify,a]
theorem jo.far (h:jo w g t l)(a:g≠b)(k:Nat)(v:Value):jo (w.setCell ⟨b,k,none⟩ v) g t l:=by
 rw[jo,Below.heap_setCell _ _ _ _ (show g≠b from a)];exact h
theorem jo.all (h:jo w g t l): ∀j v,l[j]?=some v->w.cell? ⟨g,j,none⟩=some v:=λj v a=>h.at j a
theorem jo.ats3 {a d e:Value}(h:jo w g t [a,d,e]):g<w.heap.size/\w.cell? ⟨g,0,none⟩=some a/\w.cell? ⟨g,1,none⟩=some d/\w.cell? ⟨g,2,none⟩=some e:=⟨h.lt,h.at 0 rfl,h.at 1 rfl,h.at 2 rfl⟩
theorem jo.ats4 {a d e f:Value}(h:jo w g t [a,d,e,f]):g<w.heap.size/\w.cell? ⟨g,0,none⟩=some a/\w.cell? ⟨g,1,none⟩=some d/\w.cell? ⟨g,2,none⟩=some e/\w.cell? ⟨g,3,none⟩=some f:=⟨h.lt,h.at 0 rfl,h.at 1 rfl,h.at 2 rfl,h.at 3 rfl⟩
theorem jo.ats14 {a d m n o p q r s u e f i j:Value}(h:jo w g t [a,d,m,n,o,p,q,r,s,u,e,f,i,j]):g<w.heap.size/\w.cell? ⟨g,0,none⟩=some a/\w.cell? ⟨g,1,none⟩=some d/\w.cell? ⟨g,2,none⟩=some m/\w.cell? ⟨g,3,none⟩=some n/\w.cell? ⟨g,4,none⟩=some o/\w.cell? ⟨g,5,none⟩=some p/\w.cell? ⟨g,6,none⟩=some q/\w.cell? ⟨g,7,none⟩=some r/\w.cell? ⟨g,8,none⟩=some s/\w.cell? ⟨g,9,none⟩=some u/\w.cell? ⟨g,10,none⟩=some e/\w.cell? ⟨g,11,none⟩=some f/\w.cell? ⟨g,12,none⟩=some i/\w.cell? ⟨g,13,none⟩=some j:=⟨h.lt,h.at 0 rfl,h.at 1 rfl,h.at 2 rfl,h.at 3 rfl,h.at 4 rfl,h.at 5 rfl,h.at 6 rfl,h.at 7 rfl,h.at 8 rfl,h.at 9 rfl,h.at 10 rfl,h.at 11 rfl,h.at 12 rfl,h.at 13 rfl⟩
theorem jo.set2 (h:jo w g t l){a d:Value}(f:l.length=2):jo ((w.setCell ⟨g,0,none⟩ a).setCell ⟨g,1,none⟩ d) g t [a,d]:=by
 have e:=(h.set 0 a).set 1 d
 match l,f with
 | [_,_],_=>exact e
theorem jo.set3 (h:jo w g t l){a d e:Value}(i:l.length=3):jo (((w.setCell ⟨g,0,none⟩ a).setCell ⟨g,1,none⟩ d).setCell ⟨g,2,none⟩ e) g t [a,d,e]:=by
 have f:=((h.set 0 a).set 1 d).set 2 e
 match l,i with
 | [_,_,_],_=>exact f
theorem jo.set4 (h:jo w g t l){a d e f:Value}(j:l.length=4):jo ((((w.setCell ⟨g,0,none⟩ a).setCell ⟨g,1,none⟩ d).setCell ⟨g,2,none⟩ e).setCell ⟨g,3,none⟩ f) g t [a,d,e,f]:=by
 have i:=(((h.set 0 a).set 1 d).set 2 e).set 3 f
 match l,j with
 | [_,_,_,_],_=>exact i
end
theorem kN {B:Nat}{a w:World}{g:Nat}(h:Below B a w)(b:B<=g)(k:Nat)(v:Value):Below B a (w.setCell ⟨g,k,none⟩ v):=h.setCell b v
theorem OL.off {α:Type}[Rep α]{e:TypeId}{B:Nat}{O:Nat->Prop}{T:List TypeId}{w:World}{v:Value}{xs:List α}(h:OL e B O T w v xs){t g:Nat}(c:iF w t g)(b:B<=g\/ ∀k,¬O k)(i:t≠e)(f:t∉T)(o:Nat)(u:Value):OL e B O T (w.setCell ⟨g,o,none⟩ u) v xs:=
 h.kept (λk a=>Below.heap_setCell _ _ _ k (λq=>by
  have q:k=g:=q;subst q;rcases a with (⟨ho,a⟩|⟨_,t',ht',a⟩)|a
  ·rcases b with b|b
   ·omega
   ·exact b _ ho
  ·exact iF.ne c a (λd=>f (d▸ht')) rfl
  ·exact iF.ne c (h.ty a).2 i rfl)) (by simp[World.setCell])
end Go.Proofs.YtopjjlmfilgngaaGreatDoor
