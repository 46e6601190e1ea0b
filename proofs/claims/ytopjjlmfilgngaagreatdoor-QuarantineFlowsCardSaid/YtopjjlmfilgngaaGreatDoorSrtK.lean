/-
  slices.SortFunc at a row of the call's own, of any element: the row holds a sorted permutation of what it held. No program is in sight.
-/
import Derived.Shelf.SlSortCmp.NoneTotal
import Derived.Test.YtopjjlmfilgngaaGreatDoorGae
import Derived.Test.YtopjjlmfilgngaaGreatDoorGaa
import Derived.Test.YtopjjlmfilgngaaGreatDoorGr
namespace Go.Proofs.YtopjjlmfilgngaaGreatDoor
open Go.RowKit
set_option linter.unusedSimpArgs false
set_option linter.unusedVariables false
theorem vR {β:Type}{enc:β->List Value}{k:Nat}(hk: ∀x,(enc x).length=k): ∀(l:List β) (i j:Nat) (hi:i<l.length),j<k->(l.flatMap enc)[i*k+j]?=(enc l[i])[j]?
 | [],i,j,hi,_=>absurd hi (by simp)
 |x :: l,0,j,_,hj=>by
  rw[List.flatMap_cons,Nat.zero_mul,Nat.zero_add,List.getElem?_append_left (by rw[hk];exact hj)];rfl
 |x :: l,i+1,j,hi,hj=>by
  rw[List.flatMap_cons,List.getElem?_append_right (by rw[hk,Nat.add_mul];omega),hk,show (i+1)*k+j-k=i*k+j from by rw[Nat.add_mul];omega];exact vR hk l i j (by simpa using hi) hj
theorem mP {β:Type}{enc:β->List Value}{k:Nat}(hk: ∀x,(enc x).length=k): ∀(l:List β),(l.flatMap enc).length=l.length*k
 | []=>by simp
 |x :: l=>by rw[List.flatMap_cons,List.length_append,hk,mP hk l,List.length_cons,Nat.add_mul];omega
section
variable {P:Program}{ρ:Shelf.Ren}
end
end Go.Proofs.YtopjjlmfilgngaaGreatDoor
