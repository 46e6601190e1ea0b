/-
  DERIVED. GIVEN WITH THE SEED: THE CARDS: each row of YtmnhahilbbnkkaaGreatDoorRows.lean that lists a variable, with what it lists TIED to the program's text (the seventh form; the later family's looks); each row that meets fmt, with fmt's text TOLD by the authors' own Lean function (tested against real Go, not proved from fmt's source: count such statements apart). THE CARD IS WHAT COUNTS. Prove the row's statement (the work); the ties are given (YtmnhahilbbnkkaaGreatDoorTie.lean); close each card by the builder's one call (the guide's Derived/Test/ToyasCard.lean, 'card_holds'). Laid BY PROGRAM, IN A SANDBOX (cutbox-door.mjs). By AI agents, Wed Nov 11 2026. No macro, syntax, notation, axiom, sorry.
-/
import Derived.Test.YtmnhahilbbnkkaaGreatDoorRows
import GoSem.ClaimSeven
namespace Go.Proofs.YtmnhahilbbnkkaaGreatDoor
namespace Rows

/-- THE TIED CARD OF 'warehouselaw9.ScalarTypes'. -/
def scalarTypesCard : Claim7 := { stood := { row := scalarTypesRow, standIns := [], harness := (true, "6b248f0e082ca428b7930755a608816cb6b230322b5b52d2849ae3d5c169105e"), looks := false }, kinds := [], alts := [], laidByText := true, laidKinds := [.widerDeep], laidTests := true, laidLooks := .later }
def ScalarTypesCardSaid : Prop := Claim7.holds Tryz.pinned (.plain (OpenSpec.ofChange scalarTypesSpec)) scalarTypesCard

/-- THE TIED CARD OF 'warehouselaw9.ScalarEvals'. -/
def scalarEvalsCard : Claim7 := { stood := { row := scalarEvalsRow, standIns := [], harness := (true, "6b248f0e082ca428b7930755a608816cb6b230322b5b52d2849ae3d5c169105e"), looks := false }, kinds := [], alts := [], laidByText := true, laidKinds := [.widerDeep], laidTests := true, laidLooks := .later }
def ScalarEvalsCardSaid : Prop := Claim7.holds Tryz.pinned (.plain (OpenSpec.ofChange scalarEvalsSpec)) scalarEvalsCard

/-- THE TIED CARD OF 'warehouselaw9.ScalarSound'. -/
def scalarSoundCard : Claim7 := { stood := { row := scalarSoundRow, standIns := [], harness := (true, "6b248f0e082ca428b7930755a608816cb6b230322b5b52d2849ae3d5c169105e"), looks := false }, kinds := [], alts := [], laidByText := true, laidKinds := [.widerDeep], laidTests := true, laidLooks := .later }
def ScalarSoundCardSaid : Prop := Claim7.holds Tryz.pinned (.plain (OpenSpec.ofChange scalarSoundSpec)) scalarSoundCard

/-- THE TIED CARD OF 'warehouselaw9.ScalarLogic'. -/
def scalarLogicCard : Claim7 := { stood := { row := scalarLogicRow, standIns := [], harness := (true, "6b248f0e082ca428b7930755a608816cb6b230322b5b52d2849ae3d5c169105e"), looks := false }, kinds := [], alts := [], laidByText := true, laidKinds := [.widerDeep], laidTests := true, laidLooks := .later }
def ScalarLogicCardSaid : Prop := Claim7.holds Tryz.pinned (.plain (OpenSpec.ofChange scalarLogicSpec)) scalarLogicCard

/-- THE TIED CARD OF 'warehouselaw9.ScalarDepends'. -/
def scalarDependsCard : Claim7 := { stood := { row := scalarDependsRow, standIns := [], harness := (true, "6b248f0e082ca428b7930755a608816cb6b230322b5b52d2849ae3d5c169105e"), looks := false }, kinds := [], alts := [], laidByText := true, laidKinds := [.widerDeep], laidTests := true, laidLooks := .later }
def ScalarDependsCardSaid : Prop := Claim7.holds Tryz.pinned (.plain (OpenSpec.ofChange scalarDependsSpec)) scalarDependsCard

/-- THE SECOND FORM's CARD OF 'warehouselaw9.ScalarTypes'. -/
def scalarTypesUptoCard : Claim7 := { stood := { row := scalarTypesUptoRow, standIns := [], harness := (true, "6b248f0e082ca428b7930755a608816cb6b230322b5b52d2849ae3d5c169105e"), looks := false }, kinds := [], alts := [], laidByText := true, laidKinds := [.widerDeep], laidTests := true, laidLooks := .later }
def ScalarTypesUptoCardSaid : Prop := Claim7.holds Tryz.pinned (.plain (OpenSpec.upto scalarTypesSpec)) scalarTypesUptoCard

/-- THE SECOND FORM's CARD OF 'warehouselaw9.ScalarEvals'. -/
def scalarEvalsUptoCard : Claim7 := { stood := { row := scalarEvalsUptoRow, standIns := [], harness := (true, "6b248f0e082ca428b7930755a608816cb6b230322b5b52d2849ae3d5c169105e"), looks := false }, kinds := [], alts := [], laidByText := true, laidKinds := [.widerDeep], laidTests := true, laidLooks := .later }
def ScalarEvalsUptoCardSaid : Prop := Claim7.holds Tryz.pinned (.plain (OpenSpec.upto scalarEvalsSpec)) scalarEvalsUptoCard

/-- THE SECOND FORM's CARD OF 'warehouselaw9.ScalarSound'. -/
def scalarSoundUptoCard : Claim7 := { stood := { row := scalarSoundUptoRow, standIns := [], harness := (true, "6b248f0e082ca428b7930755a608816cb6b230322b5b52d2849ae3d5c169105e"), looks := false }, kinds := [], alts := [], laidByText := true, laidKinds := [.widerDeep], laidTests := true, laidLooks := .later }
def ScalarSoundUptoCardSaid : Prop := Claim7.holds Tryz.pinned (.plain (OpenSpec.upto scalarSoundSpec)) scalarSoundUptoCard

/-- THE SECOND FORM's CARD OF 'warehouselaw9.ScalarLogic'. -/
def scalarLogicUptoCard : Claim7 := { stood := { row := scalarLogicUptoRow, standIns := [], harness := (true, "6b248f0e082ca428b7930755a608816cb6b230322b5b52d2849ae3d5c169105e"), looks := false }, kinds := [], alts := [], laidByText := true, laidKinds := [.widerDeep], laidTests := true, laidLooks := .later }
def ScalarLogicUptoCardSaid : Prop := Claim7.holds Tryz.pinned (.plain (OpenSpec.upto scalarLogicSpec)) scalarLogicUptoCard

/-- THE SECOND FORM's CARD OF 'warehouselaw9.ScalarDepends'. -/
def scalarDependsUptoCard : Claim7 := { stood := { row := scalarDependsUptoRow, standIns := [], harness := (true, "6b248f0e082ca428b7930755a608816cb6b230322b5b52d2849ae3d5c169105e"), looks := false }, kinds := [], alts := [], laidByText := true, laidKinds := [.widerDeep], laidTests := true, laidLooks := .later }
def ScalarDependsUptoCardSaid : Prop := Claim7.holds Tryz.pinned (.plain (OpenSpec.upto scalarDependsSpec)) scalarDependsUptoCard
end Rows
end Go.Proofs.YtmnhahilbbnkkaaGreatDoor
