/-
  The closed facts of the whole program, one by one.
-/
import Derived.Test.YtopjjlmfilgngaaGreatDoorCards
import Derived.JoinedOf
namespace Go.Proofs.YtopjjlmfilgngaaGreatDoor
set_option linter.unusedVariables false
theorem mW:laidOutB Tryz.prog=true:=by kernel_rfl
theorem EB:mapsRowed Tryz.prog=true:=by kernel_rfl
theorem BL:(Tryz.prog.stops==[])=true:=by kernel_rfl
theorem BJ:(Tryz.prog.stopKnobs==[])=true:=by kernel_rfl
theorem BI:Tryz.prog.stopsHeard=true:=by kernel_rfl
theorem BH:Tryz.prog.mayEnter=true:=by kernel_rfl
theorem BK:false=Tryz.prog.looks []:=by kernel_rfl
end Go.Proofs.YtopjjlmfilgngaaGreatDoor
