/-
  DERIVED. GIVEN WITH THE SEED: THE CARDS: each row of YthnelebakkggjaaGreatDoorRows.lean that lists a variable, with what it lists TIED to the program's text (the seventh form; the later family's looks); each row that meets fmt, with fmt's text TOLD by the authors' own Lean function (tested against real Go, not proved from fmt's source: count such statements apart). THE CARD IS WHAT COUNTS. Prove the row's statement (the work); the ties are given (YthnelebakkggjaaGreatDoorTie.lean); close each card by the builder's one call (the guide's Derived/Test/ToyasCard.lean, 'card_holds'). Laid BY PROGRAM, IN A SANDBOX (cutbox-door.mjs). By AI agents, Wed Nov 11 2026. No macro, syntax, notation, axiom, sorry.
-/
import Derived.Test.YthnelebakkggjaaGreatDoorRows
import GoSem.ClaimSeven
namespace Go.Proofs.YthnelebakkggjaaGreatDoor
namespace Rows

/-- THE TIED CARD OF 'warehouselaw29.InspectBuild'. -/
def inspectBuildCard : Claim7 := { stood := { row := inspectBuildRow, standIns := [], harness := (true, "fabdc25eadfef2d63bf541d18e32449254f367122489bcd6b202a210be043382"), looks := false }, kinds := [], alts := [], laidByText := true, laidKinds := [.widerDeep], laidTests := true, laidLooks := .later }
def InspectBuildCardSaid : Prop := Claim7.holds Tryz.pinned (.plain (OpenSpec.ofChange inspectBuildSpec)) inspectBuildCard

/-- THE TIED CARD OF 'warehouselaw29.InspectApply'. -/
def inspectApplyCard : Claim7 := { stood := { row := inspectApplyRow, standIns := [], harness := (true, "fabdc25eadfef2d63bf541d18e32449254f367122489bcd6b202a210be043382"), looks := false }, kinds := [], alts := [], laidByText := true, laidKinds := [.widerDeep], laidTests := true, laidLooks := .later }
def InspectApplyCardSaid : Prop := Claim7.holds Tryz.pinned (.plain (OpenSpec.ofChange inspectApplySpec)) inspectApplyCard

/-- THE SECOND FORM's CARD OF 'warehouselaw29.InspectBuild'. -/
def inspectBuildUptoCard : Claim7 := { stood := { row := inspectBuildUptoRow, standIns := [], harness := (true, "fabdc25eadfef2d63bf541d18e32449254f367122489bcd6b202a210be043382"), looks := false }, kinds := [], alts := [], laidByText := true, laidKinds := [.widerDeep], laidTests := true, laidLooks := .later }
def InspectBuildUptoCardSaid : Prop := Claim7.holds Tryz.pinned (.plain (OpenSpec.upto inspectBuildSpec)) inspectBuildUptoCard

/-- THE SECOND FORM's CARD OF 'warehouselaw29.InspectApply'. -/
def inspectApplyUptoCard : Claim7 := { stood := { row := inspectApplyUptoRow, standIns := [], harness := (true, "fabdc25eadfef2d63bf541d18e32449254f367122489bcd6b202a210be043382"), looks := false }, kinds := [], alts := [], laidByText := true, laidKinds := [.widerDeep], laidTests := true, laidLooks := .later }
def InspectApplyUptoCardSaid : Prop := Claim7.holds Tryz.pinned (.plain (OpenSpec.upto inspectApplySpec)) inspectApplyUptoCard
end Rows
end Go.Proofs.YthnelebakkggjaaGreatDoor
