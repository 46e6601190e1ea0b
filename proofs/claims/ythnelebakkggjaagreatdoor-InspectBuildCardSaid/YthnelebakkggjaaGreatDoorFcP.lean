/-
  The closed facts of the whole program, one by one.
-/
import Derived.Test.YthnelebakkggjaaGreatDoorCards
import Derived.JoinedOf
namespace Go.Proofs.YthnelebakkggjaaGreatDoor
set_option linter.unusedVariables false
theorem uu:laidOutB Tryz.prog=true:=by kernel_rfl
theorem KU:mapsRowed Tryz.prog=true:=by kernel_rfl
theorem Jb:(Tryz.prog.stops==[])=true:=by kernel_rfl
theorem I9:(Tryz.prog.stopKnobs==[])=true:=by kernel_rfl
theorem I8:Tryz.prog.stopsHeard=true:=by kernel_rfl
theorem I7:Tryz.prog.mayEnter=true:=by kernel_rfl
theorem Ja:false=Tryz.prog.looks []:=by kernel_rfl
end Go.Proofs.YthnelebakkggjaaGreatDoor
