/-
  The closed facts of the whole program, one by one.
-/
import Derived.Test.YtopjjlmfilgngaaGreatDoorCards
import Derived.JoinedOf
namespace Go.Proofs.YtopjjlmfilgngaaGreatDoor
set_option linter.unusedVariables false
theorem uS:laidOutB Tryz.prog=true:=by kernel_rfl
theorem QM:mapsRowed Tryz.prog=true:=by kernel_rfl
theorem Nn:(Tryz.prog.stops==[])=true:=by kernel_rfl
theorem Nk:(Tryz.prog.stopKnobs==[])=true:=by kernel_rfl
theorem Nj:Tryz.prog.stopsHeard=true:=by kernel_rfl
theorem Ni:Tryz.prog.mayEnter=true:=by kernel_rfl
theorem Nl:false=Tryz.prog.looks []:=by kernel_rfl
end Go.Proofs.YtopjjlmfilgngaaGreatDoor
