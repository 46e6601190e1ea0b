/-
  The closed facts of the whole program, one by one.
-/
import Derived.Test.YtopjjlmfilgngaaGreatDoorCards
import Derived.JoinedOf
namespace Go.Proofs.YtopjjlmfilgngaaGreatDoor
set_option linter.unusedVariables false
theorem yx:laidOutB Tryz.prog=true:=by kernel_rfl
theorem Nt:mapsRowed Tryz.prog=true:=by kernel_rfl
theorem KV:(Tryz.prog.stops==[])=true:=by kernel_rfl
theorem KT:(Tryz.prog.stopKnobs==[])=true:=by kernel_rfl
theorem KS:Tryz.prog.stopsHeard=true:=by kernel_rfl
theorem KP:Tryz.prog.mayEnter=true:=by kernel_rfl
theorem KU:false=Tryz.prog.looks []:=by kernel_rfl
end Go.Proofs.YtopjjlmfilgngaaGreatDoor
