/-
  DERIVED. GIVEN WITH THE SEED: THE CARDS: each row of YtopjjlmfilgngaaGreatDoorRows.lean that lists a variable, with what it lists TIED to the program's text (the seventh form; the later family's looks); each row that meets fmt, with fmt's text TOLD by the authors' own Lean function (tested against real Go, not proved from fmt's source: count such statements apart). THE CARD IS WHAT COUNTS. Prove the row's statement (the work); the ties are given (YtopjjlmfilgngaaGreatDoorTie.lean); close each card by the builder's one call (the guide's Derived/Test/ToyasCard.lean, 'card_holds'). Laid BY PROGRAM, IN A SANDBOX (cutbox-door.mjs). By AI agents, Wed Nov 11 2026. No macro, syntax, notation, axiom, sorry.
-/
import Derived.Test.YtopjjlmfilgngaaGreatDoorRows
import GoSem.ClaimSeven
namespace Go.Proofs.YtopjjlmfilgngaaGreatDoor
namespace Rows

/-- THE TIED CARD OF 'warehouselaw30.QuarantineWaived'. -/
def quarantineWaivedCard : Claim7 := { stood := { row := quarantineWaivedRow, standIns := [], harness := (true, "afb6ee56a6dcbb047664f3e0ba8d678b40ff2103bd813388f7ff32f180e3390e"), looks := false }, kinds := [], alts := [], laidByText := true, laidKinds := [.widerDeep], laidTests := true, laidLooks := .later }
def QuarantineWaivedCardSaid : Prop := Claim7.holds Tryz.pinned (.plain (OpenSpec.ofChange quarantineWaivedSpec)) quarantineWaivedCard

/-- THE TIED CARD OF 'warehouselaw30.QuarantineWaives'. -/
def quarantineWaivesCard : Claim7 := { stood := { row := quarantineWaivesRow, standIns := [], harness := (true, "afb6ee56a6dcbb047664f3e0ba8d678b40ff2103bd813388f7ff32f180e3390e"), looks := false }, kinds := [], alts := [], laidByText := true, laidKinds := [.widerDeep], laidTests := true, laidLooks := .later }
def QuarantineWaivesCardSaid : Prop := Claim7.holds Tryz.pinned (.plain (OpenSpec.ofChange quarantineWaivesSpec)) quarantineWaivesCard

/-- THE TIED CARD OF 'warehouselaw30.QuarantineFlows'. -/
def quarantineFlowsCard : Claim7 := { stood := { row := quarantineFlowsRow, standIns := [], harness := (true, "afb6ee56a6dcbb047664f3e0ba8d678b40ff2103bd813388f7ff32f180e3390e"), looks := false }, kinds := [], alts := [], laidByText := true, laidKinds := [.widerDeep], laidTests := true, laidLooks := .later }
def QuarantineFlowsCardSaid : Prop := Claim7.holds Tryz.pinned (.plain (OpenSpec.ofChange quarantineFlowsSpec)) quarantineFlowsCard

/-- THE TIED CARD OF 'warehouselaw30.QuarantineRejoins'. -/
def quarantineRejoinsCard : Claim7 := { stood := { row := quarantineRejoinsRow, standIns := [], harness := (true, "afb6ee56a6dcbb047664f3e0ba8d678b40ff2103bd813388f7ff32f180e3390e"), looks := false }, kinds := [], alts := [], laidByText := true, laidKinds := [.widerDeep], laidTests := true, laidLooks := .later }
def QuarantineRejoinsCardSaid : Prop := Claim7.holds Tryz.pinned (.plain (OpenSpec.ofChange quarantineRejoinsSpec)) quarantineRejoinsCard

/-- THE TIED CARD OF 'warehouselaw30.QuarantineReasons'. -/
def quarantineReasonsCard : Claim7 := { stood := { row := quarantineReasonsRow, standIns := [], harness := (true, "afb6ee56a6dcbb047664f3e0ba8d678b40ff2103bd813388f7ff32f180e3390e"), looks := false }, kinds := [], alts := [], laidByText := true, laidKinds := [.widerDeep], laidTests := true, laidLooks := .later }
def QuarantineReasonsCardSaid : Prop := Claim7.holds Tryz.pinned (.plain (OpenSpec.ofChange quarantineReasonsSpec)) quarantineReasonsCard

/-- THE SECOND FORM's CARD OF 'warehouselaw30.QuarantineWaived'. -/
def quarantineWaivedUptoCard : Claim7 := { stood := { row := quarantineWaivedUptoRow, standIns := [], harness := (true, "afb6ee56a6dcbb047664f3e0ba8d678b40ff2103bd813388f7ff32f180e3390e"), looks := false }, kinds := [], alts := [], laidByText := true, laidKinds := [.widerDeep], laidTests := true, laidLooks := .later }
def QuarantineWaivedUptoCardSaid : Prop := Claim7.holds Tryz.pinned (.plain (OpenSpec.upto quarantineWaivedSpec)) quarantineWaivedUptoCard

/-- THE SECOND FORM's CARD OF 'warehouselaw30.QuarantineWaives'. -/
def quarantineWaivesUptoCard : Claim7 := { stood := { row := quarantineWaivesUptoRow, standIns := [], harness := (true, "afb6ee56a6dcbb047664f3e0ba8d678b40ff2103bd813388f7ff32f180e3390e"), looks := false }, kinds := [], alts := [], laidByText := true, laidKinds := [.widerDeep], laidTests := true, laidLooks := .later }
def QuarantineWaivesUptoCardSaid : Prop := Claim7.holds Tryz.pinned (.plain (OpenSpec.upto quarantineWaivesSpec)) quarantineWaivesUptoCard

/-- THE SECOND FORM's CARD OF 'warehouselaw30.QuarantineFlows'. -/
def quarantineFlowsUptoCard : Claim7 := { stood := { row := quarantineFlowsUptoRow, standIns := [], harness := (true, "afb6ee56a6dcbb047664f3e0ba8d678b40ff2103bd813388f7ff32f180e3390e"), looks := false }, kinds := [], alts := [], laidByText := true, laidKinds := [.widerDeep], laidTests := true, laidLooks := .later }
def QuarantineFlowsUptoCardSaid : Prop := Claim7.holds Tryz.pinned (.plain (OpenSpec.upto quarantineFlowsSpec)) quarantineFlowsUptoCard

/-- THE SECOND FORM's CARD OF 'warehouselaw30.QuarantineRejoins'. -/
def quarantineRejoinsUptoCard : Claim7 := { stood := { row := quarantineRejoinsUptoRow, standIns := [], harness := (true, "afb6ee56a6dcbb047664f3e0ba8d678b40ff2103bd813388f7ff32f180e3390e"), looks := false }, kinds := [], alts := [], laidByText := true, laidKinds := [.widerDeep], laidTests := true, laidLooks := .later }
def QuarantineRejoinsUptoCardSaid : Prop := Claim7.holds Tryz.pinned (.plain (OpenSpec.upto quarantineRejoinsSpec)) quarantineRejoinsUptoCard

/-- THE SECOND FORM's CARD OF 'warehouselaw30.QuarantineReasons'. -/
def quarantineReasonsUptoCard : Claim7 := { stood := { row := quarantineReasonsUptoRow, standIns := [], harness := (true, "afb6ee56a6dcbb047664f3e0ba8d678b40ff2103bd813388f7ff32f180e3390e"), looks := false }, kinds := [], alts := [], laidByText := true, laidKinds := [.widerDeep], laidTests := true, laidLooks := .later }
def QuarantineReasonsUptoCardSaid : Prop := Claim7.holds Tryz.pinned (.plain (OpenSpec.upto quarantineReasonsSpec)) quarantineReasonsUptoCard
end Rows
end Go.Proofs.YtopjjlmfilgngaaGreatDoor
