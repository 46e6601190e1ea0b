/-
  inspect.index, Concerned.
-/
import Derived.Maps.OwnSet
import Derived.Test.YtopjjlmfilgngaaGreatDoorInsC
import Derived.Test.YtopjjlmfilgngaaGreatDoorGaw
import Derived.Test.YtopjjlmfilgngaaGreatDoorGaq
import Derived.Test.YtopjjlmfilgngaaGreatDoorGai
import Derived.Test.YtopjjlmfilgngaaGreatDoorBlk
import Derived.Test.YtopjjlmfilgngaaGreatDoorGas
import Derived.Test.YtopjjlmfilgngaaGreatDoorGav
import Derived.Test.YtopjjlmfilgngaaGreatDoorGad
import Derived.Test.YtopjjlmfilgngaaGreatDoorGaa
import Derived.Test.YtopjjlmfilgngaaGreatDoorGac
namespace Go.Proofs.YtopjjlmfilgngaaGreatDoor
open Go.RowKit Go.Maps
set_option linter.unusedSimpArgs false
set_option linter.unusedVariables false
theorem fJ.len {P:Program}{t K e:TypeId}{w:World}{b n:Nat}{z:Value}{f:ByteArray->Value}(h:fJ P K w b n z f)(ht:P.underlying t=some (.map K e))(ty:TypeId):
  ∃L:Nat,(L=0-> ∀s,f s=z)/\ ∀V:World,V.heap[b]?=w.heap[b]?->(Builtin.len_ #[t] ty #[.map (some b)]).run P V=.ok (.int .i64 L) V:=by
 obtain ⟨D,h1,h2,h3⟩:=h;refine ⟨Maps.size D,λh0 s=>?_,λV hV=>?_⟩
 ·obtain ⟨es,clock,_,_,_,rfl⟩:=h1;have h4:=h3 s;rw[Maps.size_eq]at h0;rw[List.eq_nil_of_length_eq_zero h0]at h4;exact (DataW.held.inj h4).symm
 ·obtain ⟨es,clock,k1,k2⟩:=h1;exact World.ownsMap.len (w:=V) ⟨es,clock,hV.trans k1,k2⟩ ht ty
end Go.Proofs.YtopjjlmfilgngaaGreatDoor
