/-
  NARROWER THAN 'FOR EVERY INPUT', by the rows' own cells (each row's printed sentence says how): QuarantineWaived: laid · QuarantineWaives: laid · QuarantineFlows: laid · QuarantineRejoins: laid · QuarantineReasons: laid.
  DERIVED. THE GIVEN ROWS OF THIS SEAT. 5 by the template 'for every input the law returns true; each argument reads behind the call as it read before'; 0 by the template 'total and deterministic' (their statements: YtopjjlmfilgngaaGreatDoorTotals.lean).
  GIVEN WITH THE SEED: the statements are not yours to turn. If you find one false, say at which input.
  Laid BY PROGRAM, IN A SANDBOX (cutbox-rows.mjs): the forced cells as the released guide's own fill.sh prints them over the translation 7f47cf02c862468b… (all of the seat's roots in one cut). By AI agents, Wed Nov 11 2026. No macro, syntax, notation, axiom, sorry.
-/
import Derived.Test.YtopjjlmfilgngaaGreatDoorChecked
import GoSem.Claim
import GoSem.ClaimJoined
import GoSem.ClaimMapViews
import Derived.JoinedTies
import Derived.KernelRfl
namespace Go.Proofs.YtopjjlmfilgngaaGreatDoor
/- THE CELL 'sum', in the pinned program and in every row, IS THE sha256 OF THE DUMP (.gsa) THAT YtopjjlmfilgngaaGreatDoorProg.lean LOADS. Nothing in Lean hashes anything: it is a label: what it is worth is what the hold of that sum in a sandbox is worth. -/
noncomputable def Tryz.pinned : Pinned := { name := "ytopjjlmfilgngaagreatdoor", sum := "7f47cf02c862468b929a8dbac87ef8a316d0d9d28644399a9ec854a37c039908", checked := Tryz.checked }
namespace Rows
def none {H : Type} : Left H := { results := [], args := [] }

/- WHAT THE LISTED PACKAGE-LEVEL VARIABLES READ AS WHEN THE CALL BEGINS. Each datum BY PROGRAM (the guide's laid-datum.mjs) off the statement by which the dump's own 'gosem.cut.vars' lays the variable. In a bare row this is a premise. The card (YtopjjlmfilgngaaGreatDoorCards.lean) ties it to the program's text. -/
def laid_warehouse_token_words {H : Type} : DataW H := .slice [.lit (.string [97, 110, 100]), .lit (.string [111, 114]), .lit (.string [110, 111, 116]), .lit (.string [110, 117, 108, 108]), .lit (.string [116, 114, 117, 101]), .lit (.string [102, 97, 108, 115, 101]), .lit (.string [98, 121]), .lit (.string [115, 101, 108, 102])] []

/-- 'warehouselaw30.QuarantineWaived': WHATEVER THE INPUT: true; the input reads as it did. -/
def quarantineWaivedSpec : ChangeSpec := { name := "quarantineWaived", fn := fun _ => fun
  | [d1, d2, d3, d4] => { results := [.lit (.bool true)], args := [d1, d2, d3, d4] }
  | _ => none }
def quarantineWaivedRow : OpenClaim := { program := "ytopjjlmfilgngaagreatdoor", sum := "7f47cf02c862468b929a8dbac87ef8a316d0d9d28644399a9ec854a37c039908", func := "warehouse/warehouselaw30.QuarantineWaived", spec := "quarantineWaived", inPlace := ["internal/bytealg.IndexByteString", "internal/bytealg.IndexString"], unfollowed := true, recurses := true, named := ["warehouse/token.words", "internal/bytealg.MaxLen"], apart := false, laid := [("warehouse/token.words", laid_warehouse_token_words)] }
def QuarantineWaivedSaid : Prop := quarantineWaivedRow.holds Tryz.pinned (OpenSpec.ofChange quarantineWaivedSpec)

/-- ITS FALSE NEIGHBOUR: 'it returns false'. Refute it at one input. -/
def quarantineWaivedWrong : ChangeSpec := { name := "quarantineWaived", fn := fun _ => fun
  | [d1, d2, d3, d4] => { results := [.lit (.bool false)], args := [d1, d2, d3, d4] }
  | _ => none }
def QuarantineWaivedWrongFalsely : Prop := quarantineWaivedRow.holds Tryz.pinned (OpenSpec.ofChange quarantineWaivedWrong)

/-- 'warehouselaw30.QuarantineWaives': WHATEVER THE INPUT: true; the input reads as it did. -/
def quarantineWaivesSpec : ChangeSpec := { name := "quarantineWaives", fn := fun _ => fun
  | [d1, d2, d3, d4] => { results := [.lit (.bool true)], args := [d1, d2, d3, d4] }
  | _ => none }
def quarantineWaivesRow : OpenClaim := { program := "ytopjjlmfilgngaagreatdoor", sum := "7f47cf02c862468b929a8dbac87ef8a316d0d9d28644399a9ec854a37c039908", func := "warehouse/warehouselaw30.QuarantineWaives", spec := "quarantineWaives", inPlace := ["internal/bytealg.IndexByteString", "internal/bytealg.IndexString"], unfollowed := true, recurses := true, named := ["warehouse/token.words", "internal/bytealg.MaxLen"], apart := false, laid := [("warehouse/token.words", laid_warehouse_token_words)] }
def QuarantineWaivesSaid : Prop := quarantineWaivesRow.holds Tryz.pinned (OpenSpec.ofChange quarantineWaivesSpec)

/-- ITS FALSE NEIGHBOUR: 'it returns false'. Refute it at one input. -/
def quarantineWaivesWrong : ChangeSpec := { name := "quarantineWaives", fn := fun _ => fun
  | [d1, d2, d3, d4] => { results := [.lit (.bool false)], args := [d1, d2, d3, d4] }
  | _ => none }
def QuarantineWaivesWrongFalsely : Prop := quarantineWaivesRow.holds Tryz.pinned (OpenSpec.ofChange quarantineWaivesWrong)

/-- 'warehouselaw30.QuarantineFlows': WHATEVER THE INPUT: true; the input reads as it did. -/
def quarantineFlowsSpec : ChangeSpec := { name := "quarantineFlows", fn := fun _ => fun
  | [d1, d2] => { results := [.lit (.bool true)], args := [d1, d2] }
  | _ => none }
def quarantineFlowsRow : OpenClaim := { program := "ytopjjlmfilgngaagreatdoor", sum := "7f47cf02c862468b929a8dbac87ef8a316d0d9d28644399a9ec854a37c039908", func := "warehouse/warehouselaw30.QuarantineFlows", spec := "quarantineFlows", inPlace := ["internal/bytealg.IndexByteString", "internal/bytealg.IndexString"], unfollowed := true, recurses := true, named := ["warehouse/token.words", "internal/bytealg.MaxLen"], apart := false, laid := [("warehouse/token.words", laid_warehouse_token_words)] }
def QuarantineFlowsSaid : Prop := quarantineFlowsRow.holds Tryz.pinned (OpenSpec.ofChange quarantineFlowsSpec)

/-- ITS FALSE NEIGHBOUR: 'it returns false'. Refute it at one input. -/
def quarantineFlowsWrong : ChangeSpec := { name := "quarantineFlows", fn := fun _ => fun
  | [d1, d2] => { results := [.lit (.bool false)], args := [d1, d2] }
  | _ => none }
def QuarantineFlowsWrongFalsely : Prop := quarantineFlowsRow.holds Tryz.pinned (OpenSpec.ofChange quarantineFlowsWrong)

/-- 'warehouselaw30.QuarantineRejoins': WHATEVER THE INPUT: true; the input reads as it did. -/
def quarantineRejoinsSpec : ChangeSpec := { name := "quarantineRejoins", fn := fun _ => fun
  | [d1, d2, d3, d4, d5] => { results := [.lit (.bool true)], args := [d1, d2, d3, d4, d5] }
  | _ => none }
def quarantineRejoinsRow : OpenClaim := { program := "ytopjjlmfilgngaagreatdoor", sum := "7f47cf02c862468b929a8dbac87ef8a316d0d9d28644399a9ec854a37c039908", func := "warehouse/warehouselaw30.QuarantineRejoins", spec := "quarantineRejoins", inPlace := ["internal/bytealg.IndexByteString", "internal/bytealg.IndexString"], unfollowed := true, recurses := true, named := ["warehouse/token.words", "internal/bytealg.MaxLen"], apart := false, laid := [("warehouse/token.words", laid_warehouse_token_words)] }
def QuarantineRejoinsSaid : Prop := quarantineRejoinsRow.holds Tryz.pinned (OpenSpec.ofChange quarantineRejoinsSpec)

/-- ITS FALSE NEIGHBOUR: 'it returns false'. Refute it at one input. -/
def quarantineRejoinsWrong : ChangeSpec := { name := "quarantineRejoins", fn := fun _ => fun
  | [d1, d2, d3, d4, d5] => { results := [.lit (.bool false)], args := [d1, d2, d3, d4, d5] }
  | _ => none }
def QuarantineRejoinsWrongFalsely : Prop := quarantineRejoinsRow.holds Tryz.pinned (OpenSpec.ofChange quarantineRejoinsWrong)

/-- 'warehouselaw30.QuarantineReasons': WHATEVER THE INPUT: true; the input reads as it did. -/
def quarantineReasonsSpec : ChangeSpec := { name := "quarantineReasons", fn := fun _ => fun
  | [d1, d2, d3] => { results := [.lit (.bool true)], args := [d1, d2, d3] }
  | _ => none }
def quarantineReasonsRow : OpenClaim := { program := "ytopjjlmfilgngaagreatdoor", sum := "7f47cf02c862468b929a8dbac87ef8a316d0d9d28644399a9ec854a37c039908", func := "warehouse/warehouselaw30.QuarantineReasons", spec := "quarantineReasons", inPlace := ["internal/bytealg.IndexByteString", "internal/bytealg.IndexString"], unfollowed := true, recurses := true, named := ["warehouse/token.words", "internal/bytealg.MaxLen"], apart := false, laid := [("warehouse/token.words", laid_warehouse_token_words)] }
def QuarantineReasonsSaid : Prop := quarantineReasonsRow.holds Tryz.pinned (OpenSpec.ofChange quarantineReasonsSpec)

/-- ITS FALSE NEIGHBOUR: 'it returns false'. Refute it at one input. -/
def quarantineReasonsWrong : ChangeSpec := { name := "quarantineReasons", fn := fun _ => fun
  | [d1, d2, d3] => { results := [.lit (.bool false)], args := [d1, d2, d3] }
  | _ => none }
def QuarantineReasonsWrongFalsely : Prop := quarantineReasonsRow.holds Tryz.pinned (OpenSpec.ofChange quarantineReasonsWrong)

/- THE SECOND FORM. 'bulk': how many values and letters a reading holds, each counted each time it is reached (what is shared counts as often as it is met; a slice's spare places count too). A statement '..UptoSaid' is the law's where the arguments, and the package variables that the reading takes, are together of bulk at most 1048576: NARROWER than '..Said'. Prove '..Said' where nothing that the law and all that it calls make is longer than what came in: it says more and counts as full. Else prove '..UptoSaid'. A law counts once. -/
mutual
def uptoBulk {H : Type} : DataW H → Nat
  | .lit (.string bytes) => bytes.length + 1
  | .lit _ => 1
  | .nil => 1
  | .ptr d => uptoBulk d + 1
  | .slice elems spare => uptoBulkAll elems + uptoBulkAll spare + 1
  | .agg parts => uptoBulkAll parts + 1
  | .iface _ d => uptoBulk d + 1
  | .map entries => uptoBulkEntries entries + 1
  | .held _ => 1
def uptoBulkAll {H : Type} : List (DataW H) → Nat
  | [] => 0
  | d :: r => uptoBulk d + uptoBulkAll r
def uptoBulkEntries {H : Type} : List (Lit × DataW H) → Nat
  | [] => 0
  | x :: r => uptoBulkEntry x + uptoBulkEntries r
def uptoBulkEntry {H : Type} : Lit × DataW H → Nat
  | (.string bytes, d) => bytes.length + uptoBulk d + 1
  | (_, d) => uptoBulk d + 1
 end
def uptoSmall : (H : Type) → List (DataW H) → Bool := fun _ ds => decide (uptoBulkAll ds ≤ 1048576)
def OpenSpec.upto (s : _root_.Go.ChangeSpec) : _root_.Go.OpenSpec := { _root_.Go.OpenSpec.ofChange s with cond := some uptoSmall }

/-- 'warehouselaw30.QuarantineWaived', WHERE WHAT IT READS IS OF BULK AT MOST 1048576: true; the input reads as it did. -/
def quarantineWaivedUptoRow : OpenClaim := { program := "ytopjjlmfilgngaagreatdoor", sum := "7f47cf02c862468b929a8dbac87ef8a316d0d9d28644399a9ec854a37c039908", func := "warehouse/warehouselaw30.QuarantineWaived", spec := "quarantineWaived", inPlace := ["internal/bytealg.IndexByteString", "internal/bytealg.IndexString"], unfollowed := true, recurses := true, named := ["warehouse/token.words", "internal/bytealg.MaxLen"], apart := false, laid := [("warehouse/token.words", laid_warehouse_token_words)], narrowed := true }
def QuarantineWaivedUptoSaid : Prop := quarantineWaivedUptoRow.holds Tryz.pinned (OpenSpec.upto quarantineWaivedSpec)

/-- 'warehouselaw30.QuarantineWaives', WHERE WHAT IT READS IS OF BULK AT MOST 1048576: true; the input reads as it did. -/
def quarantineWaivesUptoRow : OpenClaim := { program := "ytopjjlmfilgngaagreatdoor", sum := "7f47cf02c862468b929a8dbac87ef8a316d0d9d28644399a9ec854a37c039908", func := "warehouse/warehouselaw30.QuarantineWaives", spec := "quarantineWaives", inPlace := ["internal/bytealg.IndexByteString", "internal/bytealg.IndexString"], unfollowed := true, recurses := true, named := ["warehouse/token.words", "internal/bytealg.MaxLen"], apart := false, laid := [("warehouse/token.words", laid_warehouse_token_words)], narrowed := true }
def QuarantineWaivesUptoSaid : Prop := quarantineWaivesUptoRow.holds Tryz.pinned (OpenSpec.upto quarantineWaivesSpec)

/-- 'warehouselaw30.QuarantineFlows', WHERE WHAT IT READS IS OF BULK AT MOST 1048576: true; the input reads as it did. -/
def quarantineFlowsUptoRow : OpenClaim := { program := "ytopjjlmfilgngaagreatdoor", sum := "7f47cf02c862468b929a8dbac87ef8a316d0d9d28644399a9ec854a37c039908", func := "warehouse/warehouselaw30.QuarantineFlows", spec := "quarantineFlows", inPlace := ["internal/bytealg.IndexByteString", "internal/bytealg.IndexString"], unfollowed := true, recurses := true, named := ["warehouse/token.words", "internal/bytealg.MaxLen"], apart := false, laid := [("warehouse/token.words", laid_warehouse_token_words)], narrowed := true }
def QuarantineFlowsUptoSaid : Prop := quarantineFlowsUptoRow.holds Tryz.pinned (OpenSpec.upto quarantineFlowsSpec)

/-- 'warehouselaw30.QuarantineRejoins', WHERE WHAT IT READS IS OF BULK AT MOST 1048576: true; the input reads as it did. -/
def quarantineRejoinsUptoRow : OpenClaim := { program := "ytopjjlmfilgngaagreatdoor", sum := "7f47cf02c862468b929a8dbac87ef8a316d0d9d28644399a9ec854a37c039908", func := "warehouse/warehouselaw30.QuarantineRejoins", spec := "quarantineRejoins", inPlace := ["internal/bytealg.IndexByteString", "internal/bytealg.IndexString"], unfollowed := true, recurses := true, named := ["warehouse/token.words", "internal/bytealg.MaxLen"], apart := false, laid := [("warehouse/token.words", laid_warehouse_token_words)], narrowed := true }
def QuarantineRejoinsUptoSaid : Prop := quarantineRejoinsUptoRow.holds Tryz.pinned (OpenSpec.upto quarantineRejoinsSpec)

/-- 'warehouselaw30.QuarantineReasons', WHERE WHAT IT READS IS OF BULK AT MOST 1048576: true; the input reads as it did. -/
def quarantineReasonsUptoRow : OpenClaim := { program := "ytopjjlmfilgngaagreatdoor", sum := "7f47cf02c862468b929a8dbac87ef8a316d0d9d28644399a9ec854a37c039908", func := "warehouse/warehouselaw30.QuarantineReasons", spec := "quarantineReasons", inPlace := ["internal/bytealg.IndexByteString", "internal/bytealg.IndexString"], unfollowed := true, recurses := true, named := ["warehouse/token.words", "internal/bytealg.MaxLen"], apart := false, laid := [("warehouse/token.words", laid_warehouse_token_words)], narrowed := true }
def QuarantineReasonsUptoSaid : Prop := quarantineReasonsUptoRow.holds Tryz.pinned (OpenSpec.upto quarantineReasonsSpec)

end Rows
end Go.Proofs.YtopjjlmfilgngaaGreatDoor
