/-
  How a check, an inspection and a relation read as arguments.
-/
import Derived.Test.YtopjjlmfilgngaaGreatDoorTop
import Derived.Test.YtopjjlmfilgngaaGreatDoorGai
namespace Go.Proofs.YtopjjlmfilgngaaGreatDoor
open Go.ChangeShapes Go.WideShapes Go.ChangeAt Go.RowKit Go.WideElems
set_option linter.unusedVariables false
set_option linter.unusedSimpArgs false
section
variable {P:Program}{t:TypeId}
end
theorem opens_strs:x9 Tryz.prog 43 (List ByteArray):=zA Tryz.underlying43 (by kernel_rfl) (by decide) (opens_string Tryz.underlying9)
theorem opens_ents:x9 Tryz.prog 27 (List Ent):=
 zA Tryz.underlying27 (by kernel_rfl) (by decide) (opens_ent Tryz.underlying50 (by kernel_rfl) ⟨rfl,by kernel_rfl,opens_vals⟩ ⟨rfl,by kernel_rfl,DC Tryz.underlying3⟩)
end Go.Proofs.YtopjjlmfilgngaaGreatDoor
