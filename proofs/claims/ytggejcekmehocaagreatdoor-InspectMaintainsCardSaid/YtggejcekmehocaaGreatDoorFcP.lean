/-
  The closed facts of the whole program, one by one.
-/
import Derived.Test.YtggejcekmehocaaGreatDoorCards
import Derived.JoinedOf
namespace Go.Proofs.YtggejcekmehocaaGreatDoor
set_option linter.unusedVariables false
theorem yw:laidOutB Tryz.prog=true:=by kernel_rfl
theorem O6:mapsRowed Tryz.prog=true:=by kernel_rfl
theorem LQ:(Tryz.prog.stops==[])=true:=by kernel_rfl
theorem LJ:(Tryz.prog.stopKnobs==[])=true:=by kernel_rfl
theorem LH:Tryz.prog.stopsHeard=true:=by kernel_rfl
theorem LG:Tryz.prog.mayEnter=true:=by kernel_rfl
theorem LP:false=Tryz.prog.looks []:=by kernel_rfl
end Go.Proofs.YtggejcekmehocaaGreatDoor
