/-
  NARROWER THAN 'FOR EVERY INPUT', by the rows' own cells (each row's printed sentence says how): InspectBuild: laid · InspectApply: laid.
  DERIVED. THE GIVEN ROWS OF THIS SEAT. 2 by the template 'for every input the law returns true; each argument reads behind the call as it read before'; 0 by the template 'total and deterministic' (their statements: YthnelebakkggjaaGreatDoorTotals.lean).
  GIVEN WITH THE SEED: the statements are not yours to turn. If you find one false, say at which input.
  Laid BY PROGRAM, IN A SANDBOX (cutbox-rows.mjs): the forced cells as the released guide's own fill.sh prints them over the translation bba63cb6782b7166… (all of the seat's roots in one cut). By AI agents, Wed Nov 11 2026. No macro, syntax, notation, axiom, sorry.
-/
import Derived.Test.YthnelebakkggjaaGreatDoorChecked
import GoSem.Claim
import GoSem.ClaimJoined
import GoSem.ClaimMapViews
import Derived.JoinedTies
import Derived.KernelRfl
namespace Go.Proofs.YthnelebakkggjaaGreatDoor
/- THE CELL 'sum', in the pinned program and in every row, IS THE sha256 OF THE DUMP (.gsa) THAT YthnelebakkggjaaGreatDoorProg.lean LOADS. Nothing in Lean hashes anything: it is a label: what it is worth is what the hold of that sum in a sandbox is worth. -/
noncomputable def Tryz.pinned : Pinned := { name := "ythnelebakkggjaagreatdoor", sum := "bba63cb6782b71661535e1c8bdf2f57819347a2ce8835f015174678501053f1e", checked := Tryz.checked }
namespace Rows
def none {H : Type} : Left H := { results := [], args := [] }

/- WHAT THE LISTED PACKAGE-LEVEL VARIABLES READ AS WHEN THE CALL BEGINS. Each datum BY PROGRAM (the guide's laid-datum.mjs) off the statement by which the dump's own 'gosem.cut.vars' lays the variable. In a bare row this is a premise. The card (YthnelebakkggjaaGreatDoorCards.lean) ties it to the program's text. -/
def laid_warehouse_token_words {H : Type} : DataW H := .slice [.lit (.string [97, 110, 100]), .lit (.string [111, 114]), .lit (.string [110, 111, 116]), .lit (.string [110, 117, 108, 108]), .lit (.string [116, 114, 117, 101]), .lit (.string [102, 97, 108, 115, 101]), .lit (.string [98, 121]), .lit (.string [115, 101, 108, 102])] []

/-- 'warehouselaw29.InspectBuild': WHATEVER THE INPUT: true; the input reads as it did. -/
def inspectBuildSpec : ChangeSpec := { name := "inspectBuild", fn := fun _ => fun
  | [d1, d2, d3, d4, d5] => { results := [.lit (.bool true)], args := [d1, d2, d3, d4, d5] }
  | _ => none }
def inspectBuildRow : OpenClaim := { program := "ythnelebakkggjaagreatdoor", sum := "bba63cb6782b71661535e1c8bdf2f57819347a2ce8835f015174678501053f1e", func := "warehouse/warehouselaw29.InspectBuild", spec := "inspectBuild", inPlace := ["internal/bytealg.IndexByteString", "internal/bytealg.IndexString"], unfollowed := true, recurses := true, named := ["warehouse/token.words", "internal/bytealg.MaxLen"], apart := false, laid := [("warehouse/token.words", laid_warehouse_token_words)] }
def InspectBuildSaid : Prop := inspectBuildRow.holds Tryz.pinned (OpenSpec.ofChange inspectBuildSpec)

/-- ITS FALSE NEIGHBOUR: 'it returns false'. Refute it at one input. -/
def inspectBuildWrong : ChangeSpec := { name := "inspectBuild", fn := fun _ => fun
  | [d1, d2, d3, d4, d5] => { results := [.lit (.bool false)], args := [d1, d2, d3, d4, d5] }
  | _ => none }
def InspectBuildWrongFalsely : Prop := inspectBuildRow.holds Tryz.pinned (OpenSpec.ofChange inspectBuildWrong)

/-- 'warehouselaw29.InspectApply': WHATEVER THE INPUT: true; the input reads as it did. -/
def inspectApplySpec : ChangeSpec := { name := "inspectApply", fn := fun _ => fun
  | [d1, d2, d3, d4, d5, d6] => { results := [.lit (.bool true)], args := [d1, d2, d3, d4, d5, d6] }
  | _ => none }
def inspectApplyRow : OpenClaim := { program := "ythnelebakkggjaagreatdoor", sum := "bba63cb6782b71661535e1c8bdf2f57819347a2ce8835f015174678501053f1e", func := "warehouse/warehouselaw29.InspectApply", spec := "inspectApply", inPlace := ["internal/bytealg.IndexByteString", "internal/bytealg.IndexString"], unfollowed := true, recurses := true, named := ["warehouse/token.words", "internal/bytealg.MaxLen"], apart := false, laid := [("warehouse/token.words", laid_warehouse_token_words)] }
def InspectApplySaid : Prop := inspectApplyRow.holds Tryz.pinned (OpenSpec.ofChange inspectApplySpec)

/-- ITS FALSE NEIGHBOUR: 'it returns false'. Refute it at one input. -/
def inspectApplyWrong : ChangeSpec := { name := "inspectApply", fn := fun _ => fun
  | [d1, d2, d3, d4, d5, d6] => { results := [.lit (.bool false)], args := [d1, d2, d3, d4, d5, d6] }
  | _ => none }
def InspectApplyWrongFalsely : Prop := inspectApplyRow.holds Tryz.pinned (OpenSpec.ofChange inspectApplyWrong)

/- THE SECOND FORM. 'bulk': how many values and letters a reading holds, each counted each time it is reached (what is shared counts as often as it is met; a slice's spare places count too). A statement '..UptoSaid' is the law's where the arguments, and the package variables that the reading takes, are together of bulk at most 1048576: NARROWER than '..Said'. Prove '..Said' where nothing that the law and all that it calls make is longer than what came in: it says more and counts as full. Else prove '..UptoSaid'. A law counts once. -/
mutual
def uptoBulk {H : Type} : DataW H → Nat
  | .lit (.string bytes) => bytes.length + 1
  | .lit _ => 1
  | .nil => 1
  | .ptr d => uptoBulk d + 1
  | .slice elems spare => uptoBulkAll elems + uptoBulkAll spare + 1
  | .agg parts => uptoBulkAll parts + 1
  | .iface _ d => uptoBulk d + 1
  | .map entries => uptoBulkEntries entries + 1
  | .held _ => 1
def uptoBulkAll {H : Type} : List (DataW H) → Nat
  | [] => 0
  | d :: r => uptoBulk d + uptoBulkAll r
def uptoBulkEntries {H : Type} : List (Lit × DataW H) → Nat
  | [] => 0
  | x :: r => uptoBulkEntry x + uptoBulkEntries r
def uptoBulkEntry {H : Type} : Lit × DataW H → Nat
  | (.string bytes, d) => bytes.length + uptoBulk d + 1
  | (_, d) => uptoBulk d + 1
 end
def uptoSmall : (H : Type) → List (DataW H) → Bool := fun _ ds => decide (uptoBulkAll ds ≤ 1048576)
def OpenSpec.upto (s : _root_.Go.ChangeSpec) : _root_.Go.OpenSpec := { _root_.Go.OpenSpec.ofChange s with cond := some uptoSmall }

/-- 'warehouselaw29.InspectBuild', WHERE WHAT IT READS IS OF BULK AT MOST 1048576: true; the input reads as it did. -/
def inspectBuildUptoRow : OpenClaim := { program := "ythnelebakkggjaagreatdoor", sum := "bba63cb6782b71661535e1c8bdf2f57819347a2ce8835f015174678501053f1e", func := "warehouse/warehouselaw29.InspectBuild", spec := "inspectBuild", inPlace := ["internal/bytealg.IndexByteString", "internal/bytealg.IndexString"], unfollowed := true, recurses := true, named := ["warehouse/token.words", "internal/bytealg.MaxLen"], apart := false, laid := [("warehouse/token.words", laid_warehouse_token_words)], narrowed := true }
def InspectBuildUptoSaid : Prop := inspectBuildUptoRow.holds Tryz.pinned (OpenSpec.upto inspectBuildSpec)

/-- 'warehouselaw29.InspectApply', WHERE WHAT IT READS IS OF BULK AT MOST 1048576: true; the input reads as it did. -/
def inspectApplyUptoRow : OpenClaim := { program := "ythnelebakkggjaagreatdoor", sum := "bba63cb6782b71661535e1c8bdf2f57819347a2ce8835f015174678501053f1e", func := "warehouse/warehouselaw29.InspectApply", spec := "inspectApply", inPlace := ["internal/bytealg.IndexByteString", "internal/bytealg.IndexString"], unfollowed := true, recurses := true, named := ["warehouse/token.words", "internal/bytealg.MaxLen"], apart := false, laid := [("warehouse/token.words", laid_warehouse_token_words)], narrowed := true }
def InspectApplyUptoSaid : Prop := inspectApplyUptoRow.holds Tryz.pinned (OpenSpec.upto inspectApplySpec)

end Rows
end Go.Proofs.YthnelebakkggjaaGreatDoor
