/-
  DERIVED. GIVEN WITH THE SEED: THE CARDS: each row of YtggejcekmehocaaGreatDoorRows.lean that lists a variable, with what it lists TIED to the program's text (the seventh form; the later family's looks); each row that meets fmt, with fmt's text TOLD by the authors' own Lean function (tested against real Go, not proved from fmt's source: count such statements apart). THE CARD IS WHAT COUNTS. Prove the row's statement (the work); the ties are given (YtggejcekmehocaaGreatDoorTie.lean); close each card by the builder's one call (the guide's Derived/Test/ToyasCard.lean, 'card_holds'). Laid BY PROGRAM, IN A SANDBOX (cutbox-door.mjs). By AI agents, Wed Nov 11 2026. No macro, syntax, notation, axiom, sorry.
-/
import Derived.Test.YtggejcekmehocaaGreatDoorRows
import GoSem.ClaimSeven
namespace Go.Proofs.YtggejcekmehocaaGreatDoor
namespace Rows

/-- THE TIED CARD OF 'warehouselaw29.InspectBuild'. -/
def inspectBuildCard : Claim7 := { stood := { row := inspectBuildRow, standIns := [], harness := (true, "0387e8121aa87b0467d6fc28ee9d1d9b08988fb273f5d186df0021526b9afddf"), looks := false }, kinds := [], alts := [], laidByText := true, laidKinds := [.widerDeep], laidTests := true, laidLooks := .later }
def InspectBuildCardSaid : Prop := Claim7.holds Tryz.pinned (.plain (OpenSpec.ofChange inspectBuildSpec)) inspectBuildCard

/-- THE TIED CARD OF 'warehouselaw29.InspectApply'. -/
def inspectApplyCard : Claim7 := { stood := { row := inspectApplyRow, standIns := [], harness := (true, "0387e8121aa87b0467d6fc28ee9d1d9b08988fb273f5d186df0021526b9afddf"), looks := false }, kinds := [], alts := [], laidByText := true, laidKinds := [.widerDeep], laidTests := true, laidLooks := .later }
def InspectApplyCardSaid : Prop := Claim7.holds Tryz.pinned (.plain (OpenSpec.ofChange inspectApplySpec)) inspectApplyCard

/-- THE TIED CARD OF 'warehouselaw29.InspectMaintains'. -/
def inspectMaintainsCard : Claim7 := { stood := { row := inspectMaintainsRow, standIns := [], harness := (true, "0387e8121aa87b0467d6fc28ee9d1d9b08988fb273f5d186df0021526b9afddf"), looks := false }, kinds := [], alts := [], laidByText := true, laidKinds := [.widerDeep], laidTests := true, laidLooks := .later }
def InspectMaintainsCardSaid : Prop := Claim7.holds Tryz.pinned (.plain (OpenSpec.ofChange inspectMaintainsSpec)) inspectMaintainsCard

/-- THE TIED CARD OF 'warehouselaw29.InspectLeaves'. -/
def inspectLeavesCard : Claim7 := { stood := { row := inspectLeavesRow, standIns := [], harness := (true, "0387e8121aa87b0467d6fc28ee9d1d9b08988fb273f5d186df0021526b9afddf"), looks := false }, kinds := [], alts := [], laidByText := true, laidKinds := [.widerDeep], laidTests := true, laidLooks := .later }
def InspectLeavesCardSaid : Prop := Claim7.holds Tryz.pinned (.plain (OpenSpec.ofChange inspectLeavesSpec)) inspectLeavesCard

/-- THE TIED CARD OF 'warehouselaw29.InspectBack'. -/
def inspectBackCard : Claim7 := { stood := { row := inspectBackRow, standIns := [], harness := (true, "0387e8121aa87b0467d6fc28ee9d1d9b08988fb273f5d186df0021526b9afddf"), looks := false }, kinds := [], alts := [], laidByText := true, laidKinds := [.widerDeep], laidTests := true, laidLooks := .later }
def InspectBackCardSaid : Prop := Claim7.holds Tryz.pinned (.plain (OpenSpec.ofChange inspectBackSpec)) inspectBackCard

/-- THE TIED CARD OF 'warehouselaw28.CheckViolations'. -/
def checkViolationsCard : Claim7 := { stood := { row := checkViolationsRow, standIns := [], harness := (true, "0387e8121aa87b0467d6fc28ee9d1d9b08988fb273f5d186df0021526b9afddf"), looks := false }, kinds := [], alts := [], laidByText := true, laidKinds := [.widerDeep], laidTests := true, laidLooks := .later }
def CheckViolationsCardSaid : Prop := Claim7.holds Tryz.pinned (.plain (OpenSpec.ofChange checkViolationsSpec)) checkViolationsCard

/-- THE TIED CARD OF 'warehouselaw28.CheckReferences'. -/
def checkReferencesCard : Claim7 := { stood := { row := checkReferencesRow, standIns := [], harness := (true, "0387e8121aa87b0467d6fc28ee9d1d9b08988fb273f5d186df0021526b9afddf"), looks := false }, kinds := [], alts := [], laidByText := true, laidKinds := [.widerDeep], laidTests := true, laidLooks := .later }
def CheckReferencesCardSaid : Prop := Claim7.holds Tryz.pinned (.plain (OpenSpec.ofChange checkReferencesSpec)) checkReferencesCard

/-- THE TIED CARD OF 'warehouselaw28.CheckShares'. -/
def checkSharesCard : Claim7 := { stood := { row := checkSharesRow, standIns := [], harness := (true, "0387e8121aa87b0467d6fc28ee9d1d9b08988fb273f5d186df0021526b9afddf"), looks := false }, kinds := [], alts := [], laidByText := true, laidKinds := [.widerDeep], laidTests := true, laidLooks := .later }
def CheckSharesCardSaid : Prop := Claim7.holds Tryz.pinned (.plain (OpenSpec.ofChange checkSharesSpec)) checkSharesCard

/-- THE SECOND FORM's CARD OF 'warehouselaw29.InspectBuild'. -/
def inspectBuildUptoCard : Claim7 := { stood := { row := inspectBuildUptoRow, standIns := [], harness := (true, "0387e8121aa87b0467d6fc28ee9d1d9b08988fb273f5d186df0021526b9afddf"), looks := false }, kinds := [], alts := [], laidByText := true, laidKinds := [.widerDeep], laidTests := true, laidLooks := .later }
def InspectBuildUptoCardSaid : Prop := Claim7.holds Tryz.pinned (.plain (OpenSpec.upto inspectBuildSpec)) inspectBuildUptoCard

/-- THE SECOND FORM's CARD OF 'warehouselaw29.InspectApply'. -/
def inspectApplyUptoCard : Claim7 := { stood := { row := inspectApplyUptoRow, standIns := [], harness := (true, "0387e8121aa87b0467d6fc28ee9d1d9b08988fb273f5d186df0021526b9afddf"), looks := false }, kinds := [], alts := [], laidByText := true, laidKinds := [.widerDeep], laidTests := true, laidLooks := .later }
def InspectApplyUptoCardSaid : Prop := Claim7.holds Tryz.pinned (.plain (OpenSpec.upto inspectApplySpec)) inspectApplyUptoCard

/-- THE SECOND FORM's CARD OF 'warehouselaw29.InspectMaintains'. -/
def inspectMaintainsUptoCard : Claim7 := { stood := { row := inspectMaintainsUptoRow, standIns := [], harness := (true, "0387e8121aa87b0467d6fc28ee9d1d9b08988fb273f5d186df0021526b9afddf"), looks := false }, kinds := [], alts := [], laidByText := true, laidKinds := [.widerDeep], laidTests := true, laidLooks := .later }
def InspectMaintainsUptoCardSaid : Prop := Claim7.holds Tryz.pinned (.plain (OpenSpec.upto inspectMaintainsSpec)) inspectMaintainsUptoCard

/-- THE SECOND FORM's CARD OF 'warehouselaw29.InspectLeaves'. -/
def inspectLeavesUptoCard : Claim7 := { stood := { row := inspectLeavesUptoRow, standIns := [], harness := (true, "0387e8121aa87b0467d6fc28ee9d1d9b08988fb273f5d186df0021526b9afddf"), looks := false }, kinds := [], alts := [], laidByText := true, laidKinds := [.widerDeep], laidTests := true, laidLooks := .later }
def InspectLeavesUptoCardSaid : Prop := Claim7.holds Tryz.pinned (.plain (OpenSpec.upto inspectLeavesSpec)) inspectLeavesUptoCard

/-- THE SECOND FORM's CARD OF 'warehouselaw29.InspectBack'. -/
def inspectBackUptoCard : Claim7 := { stood := { row := inspectBackUptoRow, standIns := [], harness := (true, "0387e8121aa87b0467d6fc28ee9d1d9b08988fb273f5d186df0021526b9afddf"), looks := false }, kinds := [], alts := [], laidByText := true, laidKinds := [.widerDeep], laidTests := true, laidLooks := .later }
def InspectBackUptoCardSaid : Prop := Claim7.holds Tryz.pinned (.plain (OpenSpec.upto inspectBackSpec)) inspectBackUptoCard

/-- THE SECOND FORM's CARD OF 'warehouselaw28.CheckViolations'. -/
def checkViolationsUptoCard : Claim7 := { stood := { row := checkViolationsUptoRow, standIns := [], harness := (true, "0387e8121aa87b0467d6fc28ee9d1d9b08988fb273f5d186df0021526b9afddf"), looks := false }, kinds := [], alts := [], laidByText := true, laidKinds := [.widerDeep], laidTests := true, laidLooks := .later }
def CheckViolationsUptoCardSaid : Prop := Claim7.holds Tryz.pinned (.plain (OpenSpec.upto checkViolationsSpec)) checkViolationsUptoCard

/-- THE SECOND FORM's CARD OF 'warehouselaw28.CheckReferences'. -/
def checkReferencesUptoCard : Claim7 := { stood := { row := checkReferencesUptoRow, standIns := [], harness := (true, "0387e8121aa87b0467d6fc28ee9d1d9b08988fb273f5d186df0021526b9afddf"), looks := false }, kinds := [], alts := [], laidByText := true, laidKinds := [.widerDeep], laidTests := true, laidLooks := .later }
def CheckReferencesUptoCardSaid : Prop := Claim7.holds Tryz.pinned (.plain (OpenSpec.upto checkReferencesSpec)) checkReferencesUptoCard

/-- THE SECOND FORM's CARD OF 'warehouselaw28.CheckShares'. -/
def checkSharesUptoCard : Claim7 := { stood := { row := checkSharesUptoRow, standIns := [], harness := (true, "0387e8121aa87b0467d6fc28ee9d1d9b08988fb273f5d186df0021526b9afddf"), looks := false }, kinds := [], alts := [], laidByText := true, laidKinds := [.widerDeep], laidTests := true, laidLooks := .later }
def CheckSharesUptoCardSaid : Prop := Claim7.holds Tryz.pinned (.plain (OpenSpec.upto checkSharesSpec)) checkSharesUptoCard
end Rows
end Go.Proofs.YtggejcekmehocaaGreatDoor
