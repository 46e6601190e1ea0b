/-
  How waivers and quarantined rows read as arguments.
-/
import Derived.Test.YtopjjlmfilgngaaGreatDoorTop
import Derived.Test.YtopjjlmfilgngaaGreatDoorGai
import Derived.Test.YtopjjlmfilgngaaGreatDoorGaq
namespace Go.Proofs.YtopjjlmfilgngaaGreatDoor
open Go.ChangeShapes Go.WideShapes Go.ChangeAt Go.RowKit Go.WideElems
set_option linter.unusedVariables false
set_option linter.unusedSimpArgs false
section
variable {P:Program}{t:TypeId}{f0 f1 f2 f3:Field}
theorem zM (h:P.underlying t=some (.struct #[f0,f1]))(hc:P.cellsOf t=2)(h0:gF P f0 0 ByteArray)(h1:gF P f1 1 (List Val)):jh P t Wvr:=
 zK h hc h0 h1 λ_ _ _ _ a b ra ⟨A,n,c,hcs,hb⟩=>⟨⟨a,b⟩,A,n,c,by rw[ra.1,hcs];rfl,hb,ra.2⟩
end
theorem rX:jh Tryz.prog 22 (List Wvr):=
 oN Tryz.underlying22 (by kernel_rfl) (by decide) (zM Tryz.underlying33 (by kernel_rfl) ⟨rfl,by kernel_rfl,nC Tryz.underlying9⟩ ⟨rfl,by kernel_rfl,qM⟩)
end Go.Proofs.YtopjjlmfilgngaaGreatDoor
