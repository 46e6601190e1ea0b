/-
  The closed facts of the whole program, one by one.
-/
import Derived.Test.YtggejcekmehocaaGreatDoorCards
import Derived.JoinedOf
namespace Go.Proofs.YtggejcekmehocaaGreatDoor
set_option linter.unusedVariables false
theorem fp_laid:laidOutB Tryz.prog=true:=by kernel_rfl
theorem fp_maps:mapsRowed Tryz.prog=true:=by kernel_rfl
theorem fp_stops:(Tryz.prog.stops==[])=true:=by kernel_rfl
theorem fp_knobs:(Tryz.prog.stopKnobs==[])=true:=by kernel_rfl
theorem fp_heard:Tryz.prog.stopsHeard=true:=by kernel_rfl
theorem fp_enter:Tryz.prog.mayEnter=true:=by kernel_rfl
theorem fp_looks:false=Tryz.prog.looks []:=by kernel_rfl
end Go.Proofs.YtggejcekmehocaaGreatDoor
