/-
  How waivers and quarantined rows read as arguments.
-/
import Derived.Test.YtopjjlmfilgngaaGreatDoorOpC
import Derived.Test.YtopjjlmfilgngaaGreatDoorGau
namespace Go.Proofs.YtopjjlmfilgngaaGreatDoor
open Go.ChangeShapes Go.WideShapes Go.ChangeAt Go.RowKit Go.WideElems
set_option linter.unusedVariables false
set_option linter.unusedSimpArgs false
section
variable {P:Program}{t:TypeId}{f0 f1 f2 f3:Field}
theorem opens_quar (h:P.underlying t=some (.struct #[f0,f1,f2,f3]))(hc:P.cellsOf t=4)(h0:FieldAt P f0 0 ByteArray)(h1:FieldAt P f1 1 (List Val))(h2:FieldAt P f2 2 Int)(h3:FieldAt P f3 3 (List ByteArray)):x9 P t Quar:=
 opens_four h hc h0 h1 h2 h3 λ_ _ _ _ _ _ a b d x ra ⟨A,n,c,e1,r1⟩ rd ⟨A',n',c',e2,r2⟩=>⟨⟨a,b,d,x⟩,A,n,c,A',n',c',by rw[ra.1,e1,rd.1,e2];rfl,r1,r2,ra.2,rd.2⟩
end
theorem opens_quarD:x9 Tryz.prog 57 Quar:=
 opens_quar Tryz.underlying57 (by kernel_rfl) ⟨rfl,by kernel_rfl,opens_string Tryz.underlying9⟩ ⟨rfl,by kernel_rfl,opens_vals⟩ ⟨rfl,by kernel_rfl,DC Tryz.underlying3⟩ ⟨rfl,by kernel_rfl,opens_strs⟩
theorem opens_quars:x9 Tryz.prog 51 (List Quar):=
 zA Tryz.underlying51 (by kernel_rfl) (by decide) opens_quarD
end Go.Proofs.YtopjjlmfilgngaaGreatDoor
