/-
  The closed facts of the whole program, one by one.
-/
import Derived.Test.YtopjjlmfilgngaaGreatDoorCards
import Derived.JoinedOf
namespace Go.Proofs.YtopjjlmfilgngaaGreatDoor
set_option linter.unusedVariables false
theorem wY:laidOutB Tryz.prog=true:=by kernel_rfl
theorem Jq:mapsRowed Tryz.prog=true:=by kernel_rfl
theorem Fx:(Tryz.prog.stops==[])=true:=by kernel_rfl
theorem Fv:(Tryz.prog.stopKnobs==[])=true:=by kernel_rfl
theorem Fu:Tryz.prog.stopsHeard=true:=by kernel_rfl
theorem Fs:Tryz.prog.mayEnter=true:=by kernel_rfl
theorem Fw:false=Tryz.prog.looks []:=by kernel_rfl
end Go.Proofs.YtopjjlmfilgngaaGreatDoor
