/-
  DERIVED. GIVEN WITH THE SEED: THE CARDS: each row of YtmnhahilbbnkkaaDoorRows.lean that lists a variable, with what it lists TIED to the program's text (the seventh form; the later family's looks); each row that meets fmt, with fmt's text TOLD by the authors' own Lean function (tested against real Go, not proved from fmt's source: count such statements apart). THE CARD IS WHAT COUNTS. Prove the row's statement (the work); the ties are given (YtmnhahilbbnkkaaDoorTie.lean); close each card by the builder's one call (the guide's Derived/Test/ToyasCard.lean, 'card_holds'). Laid BY PROGRAM, IN A SANDBOX (cutbox-door.mjs). By AI agents, Wed Nov 11 2026. No macro, syntax, notation, axiom, sorry.
-/
import Derived.Test.YtmnhahilbbnkkaaDoorRows
import GoSem.ClaimSeven
namespace Go.Proofs.YtmnhahilbbnkkaaDoor
namespace Rows

/-- THE TIED CARD OF 'warehouselaw9.ScalarChecks'. -/
def scalarChecksCard : Claim7 := { stood := { row := scalarChecksRow, standIns := [], harness := (true, "ea43aa613bed9e8ed6d28df1e21c70a19926c479c2aa10a2b135eb314ea7a925"), looks := false }, kinds := [], alts := [], laidByText := true, laidKinds := [.widerDeep], laidTests := true, laidLooks := .later }
def ScalarChecksCardSaid : Prop := Claim7.holds Tryd.pinned (.plain (OpenSpec.ofChange scalarChecksSpec)) scalarChecksCard

/-- THE TIED CARD OF 'warehouselaw9.ScalarOrder'. -/
def scalarOrderCard : Claim7 := { stood := { row := scalarOrderRow, standIns := [], harness := (true, "ea43aa613bed9e8ed6d28df1e21c70a19926c479c2aa10a2b135eb314ea7a925"), looks := false }, kinds := [], alts := [], laidByText := true, laidKinds := [.widerDeep], laidTests := true, laidLooks := .later }
def ScalarOrderCardSaid : Prop := Claim7.holds Tryd.pinned (.plain (OpenSpec.ofChange scalarOrderSpec)) scalarOrderCard

/-- THE SECOND FORM's CARD OF 'warehouselaw9.ScalarChecks'. -/
def scalarChecksUptoCard : Claim7 := { stood := { row := scalarChecksUptoRow, standIns := [], harness := (true, "ea43aa613bed9e8ed6d28df1e21c70a19926c479c2aa10a2b135eb314ea7a925"), looks := false }, kinds := [], alts := [], laidByText := true, laidKinds := [.widerDeep], laidTests := true, laidLooks := .later }
def ScalarChecksUptoCardSaid : Prop := Claim7.holds Tryd.pinned (.plain (OpenSpec.upto scalarChecksSpec)) scalarChecksUptoCard

/-- THE SECOND FORM's CARD OF 'warehouselaw9.ScalarOrder'. -/
def scalarOrderUptoCard : Claim7 := { stood := { row := scalarOrderUptoRow, standIns := [], harness := (true, "ea43aa613bed9e8ed6d28df1e21c70a19926c479c2aa10a2b135eb314ea7a925"), looks := false }, kinds := [], alts := [], laidByText := true, laidKinds := [.widerDeep], laidTests := true, laidLooks := .later }
def ScalarOrderUptoCardSaid : Prop := Claim7.holds Tryd.pinned (.plain (OpenSpec.upto scalarOrderSpec)) scalarOrderUptoCard
end Rows
end Go.Proofs.YtmnhahilbbnkkaaDoor
