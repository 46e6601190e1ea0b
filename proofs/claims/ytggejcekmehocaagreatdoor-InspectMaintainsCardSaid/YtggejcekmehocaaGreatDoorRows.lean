/-
  NARROWER THAN 'FOR EVERY INPUT', by the rows' own cells (each row's printed sentence says how): InspectBuild: laid · InspectApply: laid · InspectMaintains: laid · InspectLeaves: laid · InspectBack: laid · CheckViolations: laid · CheckReferences: laid · CheckShares: laid.
  DERIVED. THE GIVEN ROWS OF THIS SEAT. 8 by the template 'for every input the law returns true; each argument reads behind the call as it read before'; 0 by the template 'total and deterministic' (their statements: YtggejcekmehocaaGreatDoorTotals.lean).
  GIVEN WITH THE SEED: the statements are not yours to turn. If you find one false, say at which input.
  Laid BY PROGRAM, IN A SANDBOX (cutbox-rows.mjs): the forced cells as the released guide's own fill.sh prints them over the translation 629efb6c5a63d822… (all of the seat's roots in one cut). By AI agents, Wed Nov 11 2026. No macro, syntax, notation, axiom, sorry.
-/
import Derived.Test.YtggejcekmehocaaGreatDoorChecked
import GoSem.Claim
import GoSem.ClaimJoined
import GoSem.ClaimMapViews
import Derived.JoinedTies
import Derived.KernelRfl
namespace Go.Proofs.YtggejcekmehocaaGreatDoor
/- THE CELL 'sum', in the pinned program and in every row, IS THE sha256 OF THE DUMP (.gsa) THAT YtggejcekmehocaaGreatDoorProg.lean LOADS. Nothing in Lean hashes anything: it is a label: what it is worth is what the hold of that sum in a sandbox is worth. -/
noncomputable def Tryz.pinned : Pinned := { name := "ytggejcekmehocaagreatdoor", sum := "629efb6c5a63d822bb99de90fd0afa5c3fbf79916e7067a4001e450433b4c3da", checked := Tryz.checked }
namespace Rows
def none {H : Type} : Left H := { results := [], args := [] }

/- WHAT THE LISTED PACKAGE-LEVEL VARIABLES READ AS WHEN THE CALL BEGINS. Each datum BY PROGRAM (the guide's laid-datum.mjs) off the statement by which the dump's own 'gosem.cut.vars' lays the variable. In a bare row this is a premise. The card (YtggejcekmehocaaGreatDoorCards.lean) ties it to the program's text. -/
def laid_warehouse_token_words {H : Type} : DataW H := .slice [.lit (.string [97, 110, 100]), .lit (.string [111, 114]), .lit (.string [110, 111, 116]), .lit (.string [110, 117, 108, 108]), .lit (.string [116, 114, 117, 101]), .lit (.string [102, 97, 108, 115, 101]), .lit (.string [98, 121]), .lit (.string [115, 101, 108, 102])] []

/-- 'warehouselaw29.InspectBuild': WHATEVER THE INPUT: true; the input reads as it did. -/
def inspectBuildSpec : ChangeSpec := { name := "inspectBuild", fn := fun _ => fun
  | [d1, d2, d3, d4, d5] => { results := [.lit (.bool true)], args := [d1, d2, d3, d4, d5] }
  | _ => none }
def inspectBuildRow : OpenClaim := { program := "ytggejcekmehocaagreatdoor", sum := "629efb6c5a63d822bb99de90fd0afa5c3fbf79916e7067a4001e450433b4c3da", func := "warehouse/warehouselaw29.InspectBuild", spec := "inspectBuild", inPlace := ["internal/bytealg.IndexByteString", "internal/bytealg.IndexString"], unfollowed := true, recurses := true, named := ["warehouse/token.words", "internal/bytealg.MaxLen"], apart := false, laid := [("warehouse/token.words", laid_warehouse_token_words)] }
def InspectBuildSaid : Prop := inspectBuildRow.holds Tryz.pinned (OpenSpec.ofChange inspectBuildSpec)

/-- ITS FALSE NEIGHBOUR: 'it returns false'. Refute it at one input. -/
def inspectBuildWrong : ChangeSpec := { name := "inspectBuild", fn := fun _ => fun
  | [d1, d2, d3, d4, d5] => { results := [.lit (.bool false)], args := [d1, d2, d3, d4, d5] }
  | _ => none }
def InspectBuildWrongFalsely : Prop := inspectBuildRow.holds Tryz.pinned (OpenSpec.ofChange inspectBuildWrong)

/-- 'warehouselaw29.InspectApply': WHATEVER THE INPUT: true; the input reads as it did. -/
def inspectApplySpec : ChangeSpec := { name := "inspectApply", fn := fun _ => fun
  | [d1, d2, d3, d4, d5, d6] => { results := [.lit (.bool true)], args := [d1, d2, d3, d4, d5, d6] }
  | _ => none }
def inspectApplyRow : OpenClaim := { program := "ytggejcekmehocaagreatdoor", sum := "629efb6c5a63d822bb99de90fd0afa5c3fbf79916e7067a4001e450433b4c3da", func := "warehouse/warehouselaw29.InspectApply", spec := "inspectApply", inPlace := ["internal/bytealg.IndexByteString", "internal/bytealg.IndexString"], unfollowed := true, recurses := true, named := ["warehouse/token.words", "internal/bytealg.MaxLen"], apart := false, laid := [("warehouse/token.words", laid_warehouse_token_words)] }
def InspectApplySaid : Prop := inspectApplyRow.holds Tryz.pinned (OpenSpec.ofChange inspectApplySpec)

/-- ITS FALSE NEIGHBOUR: 'it returns false'. Refute it at one input. -/
def inspectApplyWrong : ChangeSpec := { name := "inspectApply", fn := fun _ => fun
  | [d1, d2, d3, d4, d5, d6] => { results := [.lit (.bool false)], args := [d1, d2, d3, d4, d5, d6] }
  | _ => none }
def InspectApplyWrongFalsely : Prop := inspectApplyRow.holds Tryz.pinned (OpenSpec.ofChange inspectApplyWrong)

/-- 'warehouselaw29.InspectMaintains': WHATEVER THE INPUT: true; the input reads as it did. -/
def inspectMaintainsSpec : ChangeSpec := { name := "inspectMaintains", fn := fun _ => fun
  | [d1, d2, d3] => { results := [.lit (.bool true)], args := [d1, d2, d3] }
  | _ => none }
def inspectMaintainsRow : OpenClaim := { program := "ytggejcekmehocaagreatdoor", sum := "629efb6c5a63d822bb99de90fd0afa5c3fbf79916e7067a4001e450433b4c3da", func := "warehouse/warehouselaw29.InspectMaintains", spec := "inspectMaintains", inPlace := ["internal/bytealg.IndexByteString", "internal/bytealg.IndexString"], unfollowed := true, recurses := true, named := ["warehouse/token.words", "internal/bytealg.MaxLen"], apart := false, laid := [("warehouse/token.words", laid_warehouse_token_words)] }
def InspectMaintainsSaid : Prop := inspectMaintainsRow.holds Tryz.pinned (OpenSpec.ofChange inspectMaintainsSpec)

/-- ITS FALSE NEIGHBOUR: 'it returns false'. Refute it at one input. -/
def inspectMaintainsWrong : ChangeSpec := { name := "inspectMaintains", fn := fun _ => fun
  | [d1, d2, d3] => { results := [.lit (.bool false)], args := [d1, d2, d3] }
  | _ => none }
def InspectMaintainsWrongFalsely : Prop := inspectMaintainsRow.holds Tryz.pinned (OpenSpec.ofChange inspectMaintainsWrong)

/-- 'warehouselaw29.InspectLeaves': WHATEVER THE INPUT: true; the input reads as it did. -/
def inspectLeavesSpec : ChangeSpec := { name := "inspectLeaves", fn := fun _ => fun
  | [d1, d2] => { results := [.lit (.bool true)], args := [d1, d2] }
  | _ => none }
def inspectLeavesRow : OpenClaim := { program := "ytggejcekmehocaagreatdoor", sum := "629efb6c5a63d822bb99de90fd0afa5c3fbf79916e7067a4001e450433b4c3da", func := "warehouse/warehouselaw29.InspectLeaves", spec := "inspectLeaves", inPlace := ["internal/bytealg.IndexByteString", "internal/bytealg.IndexString"], unfollowed := true, recurses := true, named := ["warehouse/token.words", "internal/bytealg.MaxLen"], apart := false, laid := [("warehouse/token.words", laid_warehouse_token_words)] }
def InspectLeavesSaid : Prop := inspectLeavesRow.holds Tryz.pinned (OpenSpec.ofChange inspectLeavesSpec)

/-- ITS FALSE NEIGHBOUR: 'it returns false'. Refute it at one input. -/
def inspectLeavesWrong : ChangeSpec := { name := "inspectLeaves", fn := fun _ => fun
  | [d1, d2] => { results := [.lit (.bool false)], args := [d1, d2] }
  | _ => none }
def InspectLeavesWrongFalsely : Prop := inspectLeavesRow.holds Tryz.pinned (OpenSpec.ofChange inspectLeavesWrong)

/-- 'warehouselaw29.InspectBack': WHATEVER THE INPUT: true; the input reads as it did. -/
def inspectBackSpec : ChangeSpec := { name := "inspectBack", fn := fun _ => fun
  | [d1, d2] => { results := [.lit (.bool true)], args := [d1, d2] }
  | _ => none }
def inspectBackRow : OpenClaim := { program := "ytggejcekmehocaagreatdoor", sum := "629efb6c5a63d822bb99de90fd0afa5c3fbf79916e7067a4001e450433b4c3da", func := "warehouse/warehouselaw29.InspectBack", spec := "inspectBack", inPlace := ["internal/bytealg.IndexByteString", "internal/bytealg.IndexString"], unfollowed := true, recurses := true, named := ["warehouse/token.words", "internal/bytealg.MaxLen"], apart := false, laid := [("warehouse/token.words", laid_warehouse_token_words)] }
def InspectBackSaid : Prop := inspectBackRow.holds Tryz.pinned (OpenSpec.ofChange inspectBackSpec)

/-- ITS FALSE NEIGHBOUR: 'it returns false'. Refute it at one input. -/
def inspectBackWrong : ChangeSpec := { name := "inspectBack", fn := fun _ => fun
  | [d1, d2] => { results := [.lit (.bool false)], args := [d1, d2] }
  | _ => none }
def InspectBackWrongFalsely : Prop := inspectBackRow.holds Tryz.pinned (OpenSpec.ofChange inspectBackWrong)

/-- 'warehouselaw28.CheckViolations': WHATEVER THE INPUT: true; the input reads as it did. -/
def checkViolationsSpec : ChangeSpec := { name := "checkViolations", fn := fun _ => fun
  | [d1, d2, d3, d4] => { results := [.lit (.bool true)], args := [d1, d2, d3, d4] }
  | _ => none }
def checkViolationsRow : OpenClaim := { program := "ytggejcekmehocaagreatdoor", sum := "629efb6c5a63d822bb99de90fd0afa5c3fbf79916e7067a4001e450433b4c3da", func := "warehouse/warehouselaw28.CheckViolations", spec := "checkViolations", inPlace := ["internal/bytealg.IndexByteString", "internal/bytealg.IndexString"], unfollowed := true, recurses := true, named := ["warehouse/token.words", "internal/bytealg.MaxLen"], apart := false, laid := [("warehouse/token.words", laid_warehouse_token_words)] }
def CheckViolationsSaid : Prop := checkViolationsRow.holds Tryz.pinned (OpenSpec.ofChange checkViolationsSpec)

/-- ITS FALSE NEIGHBOUR: 'it returns false'. Refute it at one input. -/
def checkViolationsWrong : ChangeSpec := { name := "checkViolations", fn := fun _ => fun
  | [d1, d2, d3, d4] => { results := [.lit (.bool false)], args := [d1, d2, d3, d4] }
  | _ => none }
def CheckViolationsWrongFalsely : Prop := checkViolationsRow.holds Tryz.pinned (OpenSpec.ofChange checkViolationsWrong)

/-- 'warehouselaw28.CheckReferences': WHATEVER THE INPUT: true; the input reads as it did. -/
def checkReferencesSpec : ChangeSpec := { name := "checkReferences", fn := fun _ => fun
  | [d1, d2] => { results := [.lit (.bool true)], args := [d1, d2] }
  | _ => none }
def checkReferencesRow : OpenClaim := { program := "ytggejcekmehocaagreatdoor", sum := "629efb6c5a63d822bb99de90fd0afa5c3fbf79916e7067a4001e450433b4c3da", func := "warehouse/warehouselaw28.CheckReferences", spec := "checkReferences", inPlace := ["internal/bytealg.IndexByteString", "internal/bytealg.IndexString"], unfollowed := true, recurses := true, named := ["warehouse/token.words", "internal/bytealg.MaxLen"], apart := false, laid := [("warehouse/token.words", laid_warehouse_token_words)] }
def CheckReferencesSaid : Prop := checkReferencesRow.holds Tryz.pinned (OpenSpec.ofChange checkReferencesSpec)

/-- ITS FALSE NEIGHBOUR: 'it returns false'. Refute it at one input. -/
def checkReferencesWrong : ChangeSpec := { name := "checkReferences", fn := fun _ => fun
  | [d1, d2] => { results := [.lit (.bool false)], args := [d1, d2] }
  | _ => none }
def CheckReferencesWrongFalsely : Prop := checkReferencesRow.holds Tryz.pinned (OpenSpec.ofChange checkReferencesWrong)

/-- 'warehouselaw28.CheckShares': WHATEVER THE INPUT: true; the input reads as it did. -/
def checkSharesSpec : ChangeSpec := { name := "checkShares", fn := fun _ => fun
  | [d1, d2, d3, d4] => { results := [.lit (.bool true)], args := [d1, d2, d3, d4] }
  | _ => none }
def checkSharesRow : OpenClaim := { program := "ytggejcekmehocaagreatdoor", sum := "629efb6c5a63d822bb99de90fd0afa5c3fbf79916e7067a4001e450433b4c3da", func := "warehouse/warehouselaw28.CheckShares", spec := "checkShares", inPlace := ["internal/bytealg.IndexByteString", "internal/bytealg.IndexString"], unfollowed := true, recurses := true, named := ["warehouse/token.words", "internal/bytealg.MaxLen"], apart := false, laid := [("warehouse/token.words", laid_warehouse_token_words)] }
def CheckSharesSaid : Prop := checkSharesRow.holds Tryz.pinned (OpenSpec.ofChange checkSharesSpec)

/-- ITS FALSE NEIGHBOUR: 'it returns false'. Refute it at one input. -/
def checkSharesWrong : ChangeSpec := { name := "checkShares", fn := fun _ => fun
  | [d1, d2, d3, d4] => { results := [.lit (.bool false)], args := [d1, d2, d3, d4] }
  | _ => none }
def CheckSharesWrongFalsely : Prop := checkSharesRow.holds Tryz.pinned (OpenSpec.ofChange checkSharesWrong)

/- THE SECOND FORM. 'bulk': how many values and letters a reading holds, each counted each time it is reached (what is shared counts as often as it is met; a slice's spare places count too). A statement '..UptoSaid' is the law's where the arguments, and the package variables that the reading takes, are together of bulk at most 1048576: NARROWER than '..Said'. Prove '..Said' where nothing that the law and all that it calls make is longer than what came in: it says more and counts as full. Else prove '..UptoSaid'. A law counts once. -/
mutual
def uptoBulk {H : Type} : DataW H → Nat
  | .lit (.string bytes) => bytes.length + 1
  | .lit _ => 1
  | .nil => 1
  | .ptr d => uptoBulk d + 1
  | .slice elems spare => uptoBulkAll elems + uptoBulkAll spare + 1
  | .agg parts => uptoBulkAll parts + 1
  | .iface _ d => uptoBulk d + 1
  | .map entries => uptoBulkEntries entries + 1
  | .held _ => 1
def uptoBulkAll {H : Type} : List (DataW H) → Nat
  | [] => 0
  | d :: r => uptoBulk d + uptoBulkAll r
def uptoBulkEntries {H : Type} : List (Lit × DataW H) → Nat
  | [] => 0
  | x :: r => uptoBulkEntry x + uptoBulkEntries r
def uptoBulkEntry {H : Type} : Lit × DataW H → Nat
  | (.string bytes, d) => bytes.length + uptoBulk d + 1
  | (_, d) => uptoBulk d + 1
 end
def uptoSmall : (H : Type) → List (DataW H) → Bool := fun _ ds => decide (uptoBulkAll ds ≤ 1048576)
def OpenSpec.upto (s : _root_.Go.ChangeSpec) : _root_.Go.OpenSpec := { _root_.Go.OpenSpec.ofChange s with cond := some uptoSmall }

/-- 'warehouselaw29.InspectBuild', WHERE WHAT IT READS IS OF BULK AT MOST 1048576: true; the input reads as it did. -/
def inspectBuildUptoRow : OpenClaim := { program := "ytggejcekmehocaagreatdoor", sum := "629efb6c5a63d822bb99de90fd0afa5c3fbf79916e7067a4001e450433b4c3da", func := "warehouse/warehouselaw29.InspectBuild", spec := "inspectBuild", inPlace := ["internal/bytealg.IndexByteString", "internal/bytealg.IndexString"], unfollowed := true, recurses := true, named := ["warehouse/token.words", "internal/bytealg.MaxLen"], apart := false, laid := [("warehouse/token.words", laid_warehouse_token_words)], narrowed := true }
def InspectBuildUptoSaid : Prop := inspectBuildUptoRow.holds Tryz.pinned (OpenSpec.upto inspectBuildSpec)

/-- 'warehouselaw29.InspectApply', WHERE WHAT IT READS IS OF BULK AT MOST 1048576: true; the input reads as it did. -/
def inspectApplyUptoRow : OpenClaim := { program := "ytggejcekmehocaagreatdoor", sum := "629efb6c5a63d822bb99de90fd0afa5c3fbf79916e7067a4001e450433b4c3da", func := "warehouse/warehouselaw29.InspectApply", spec := "inspectApply", inPlace := ["internal/bytealg.IndexByteString", "internal/bytealg.IndexString"], unfollowed := true, recurses := true, named := ["warehouse/token.words", "internal/bytealg.MaxLen"], apart := false, laid := [("warehouse/token.words", laid_warehouse_token_words)], narrowed := true }
def InspectApplyUptoSaid : Prop := inspectApplyUptoRow.holds Tryz.pinned (OpenSpec.upto inspectApplySpec)

/-- 'warehouselaw29.InspectMaintains', WHERE WHAT IT READS IS OF BULK AT MOST 1048576: true; the input reads as it did. -/
def inspectMaintainsUptoRow : OpenClaim := { program := "ytggejcekmehocaagreatdoor", sum := "629efb6c5a63d822bb99de90fd0afa5c3fbf79916e7067a4001e450433b4c3da", func := "warehouse/warehouselaw29.InspectMaintains", spec := "inspectMaintains", inPlace := ["internal/bytealg.IndexByteString", "internal/bytealg.IndexString"], unfollowed := true, recurses := true, named := ["warehouse/token.words", "internal/bytealg.MaxLen"], apart := false, laid := [("warehouse/token.words", laid_warehouse_token_words)], narrowed := true }
def InspectMaintainsUptoSaid : Prop := inspectMaintainsUptoRow.holds Tryz.pinned (OpenSpec.upto inspectMaintainsSpec)

/-- 'warehouselaw29.InspectLeaves', WHERE WHAT IT READS IS OF BULK AT MOST 1048576: true; the input reads as it did. -/
def inspectLeavesUptoRow : OpenClaim := { program := "ytggejcekmehocaagreatdoor", sum := "629efb6c5a63d822bb99de90fd0afa5c3fbf79916e7067a4001e450433b4c3da", func := "warehouse/warehouselaw29.InspectLeaves", spec := "inspectLeaves", inPlace := ["internal/bytealg.IndexByteString", "internal/bytealg.IndexString"], unfollowed := true, recurses := true, named := ["warehouse/token.words", "internal/bytealg.MaxLen"], apart := false, laid := [("warehouse/token.words", laid_warehouse_token_words)], narrowed := true }
def InspectLeavesUptoSaid : Prop := inspectLeavesUptoRow.holds Tryz.pinned (OpenSpec.upto inspectLeavesSpec)

/-- 'warehouselaw29.InspectBack', WHERE WHAT IT READS IS OF BULK AT MOST 1048576: true; the input reads as it did. -/
def inspectBackUptoRow : OpenClaim := { program := "ytggejcekmehocaagreatdoor", sum := "629efb6c5a63d822bb99de90fd0afa5c3fbf79916e7067a4001e450433b4c3da", func := "warehouse/warehouselaw29.InspectBack", spec := "inspectBack", inPlace := ["internal/bytealg.IndexByteString", "internal/bytealg.IndexString"], unfollowed := true, recurses := true, named := ["warehouse/token.words", "internal/bytealg.MaxLen"], apart := false, laid := [("warehouse/token.words", laid_warehouse_token_words)], narrowed := true }
def InspectBackUptoSaid : Prop := inspectBackUptoRow.holds Tryz.pinned (OpenSpec.upto inspectBackSpec)

/-- 'warehouselaw28.CheckViolations', WHERE WHAT IT READS IS OF BULK AT MOST 1048576: true; the input reads as it did. -/
def checkViolationsUptoRow : OpenClaim := { program := "ytggejcekmehocaagreatdoor", sum := "629efb6c5a63d822bb99de90fd0afa5c3fbf79916e7067a4001e450433b4c3da", func := "warehouse/warehouselaw28.CheckViolations", spec := "checkViolations", inPlace := ["internal/bytealg.IndexByteString", "internal/bytealg.IndexString"], unfollowed := true, recurses := true, named := ["warehouse/token.words", "internal/bytealg.MaxLen"], apart := false, laid := [("warehouse/token.words", laid_warehouse_token_words)], narrowed := true }
def CheckViolationsUptoSaid : Prop := checkViolationsUptoRow.holds Tryz.pinned (OpenSpec.upto checkViolationsSpec)

/-- 'warehouselaw28.CheckReferences', WHERE WHAT IT READS IS OF BULK AT MOST 1048576: true; the input reads as it did. -/
def checkReferencesUptoRow : OpenClaim := { program := "ytggejcekmehocaagreatdoor", sum := "629efb6c5a63d822bb99de90fd0afa5c3fbf79916e7067a4001e450433b4c3da", func := "warehouse/warehouselaw28.CheckReferences", spec := "checkReferences", inPlace := ["internal/bytealg.IndexByteString", "internal/bytealg.IndexString"], unfollowed := true, recurses := true, named := ["warehouse/token.words", "internal/bytealg.MaxLen"], apart := false, laid := [("warehouse/token.words", laid_warehouse_token_words)], narrowed := true }
def CheckReferencesUptoSaid : Prop := checkReferencesUptoRow.holds Tryz.pinned (OpenSpec.upto checkReferencesSpec)

/-- 'warehouselaw28.CheckShares', WHERE WHAT IT READS IS OF BULK AT MOST 1048576: true; the input reads as it did. -/
def checkSharesUptoRow : OpenClaim := { program := "ytggejcekmehocaagreatdoor", sum := "629efb6c5a63d822bb99de90fd0afa5c3fbf79916e7067a4001e450433b4c3da", func := "warehouse/warehouselaw28.CheckShares", spec := "checkShares", inPlace := ["internal/bytealg.IndexByteString", "internal/bytealg.IndexString"], unfollowed := true, recurses := true, named := ["warehouse/token.words", "internal/bytealg.MaxLen"], apart := false, laid := [("warehouse/token.words", laid_warehouse_token_words)], narrowed := true }
def CheckSharesUptoSaid : Prop := checkSharesUptoRow.holds Tryz.pinned (OpenSpec.upto checkSharesSpec)

end Rows
end Go.Proofs.YtggejcekmehocaaGreatDoor
