/-
  NARROWER THAN 'FOR EVERY INPUT', by the rows' own cells (each row's printed sentence says how): ScalarChecks: laid · ScalarOrder: laid.
  DERIVED. THE GIVEN ROWS OF THIS SEAT. 2 by the template 'for every input the law returns true; each argument reads behind the call as it read before'; 0 by the template 'total and deterministic' (their statements: YtmnhahilbbnkkaaDoorTotals.lean).
  GIVEN WITH THE SEED: the statements are not yours to turn. If you find one false, say at which input.
  Laid BY PROGRAM, IN A SANDBOX (cutbox-rows.mjs): the forced cells as the released guide's own fill.sh prints them over the translation 0a5ffdb0febdda9b… (all of the seat's roots in one cut). By AI agents, Wed Nov 11 2026. No macro, syntax, notation, axiom, sorry.
-/
import Derived.Test.YtmnhahilbbnkkaaDoorChecked
import GoSem.Claim
import GoSem.ClaimJoined
import GoSem.ClaimMapViews
import Derived.JoinedTies
import Derived.KernelRfl
namespace Go.Proofs.YtmnhahilbbnkkaaDoor
/- THE CELL 'sum', in the pinned program and in every row, IS THE sha256 OF THE DUMP (.gsa) THAT YtmnhahilbbnkkaaDoorProg.lean LOADS. Nothing in Lean hashes anything: it is a label: what it is worth is what the hold of that sum in a sandbox is worth. -/
noncomputable def Tryd.pinned : Pinned := { name := "ytmnhahilbbnkkaadoor", sum := "0a5ffdb0febdda9ba75d60847ec121af3fe2072195e8f9c64a8e618ba028af2a", checked := Tryd.checked }
namespace Rows
def none {H : Type} : Left H := { results := [], args := [] }

/- WHAT THE LISTED PACKAGE-LEVEL VARIABLES READ AS WHEN THE CALL BEGINS. Each datum BY PROGRAM (the guide's laid-datum.mjs) off the statement by which the dump's own 'gosem.cut.vars' lays the variable. In a bare row this is a premise. The card (YtmnhahilbbnkkaaDoorCards.lean) ties it to the program's text. -/
def laid_warehouse_token_words {H : Type} : DataW H := .slice [.lit (.string [97, 110, 100]), .lit (.string [111, 114]), .lit (.string [110, 111, 116]), .lit (.string [110, 117, 108, 108]), .lit (.string [116, 114, 117, 101]), .lit (.string [102, 97, 108, 115, 101]), .lit (.string [98, 121]), .lit (.string [115, 101, 108, 102])] []

/-- 'warehouselaw9.ScalarChecks': WHATEVER THE INPUT: true; the input reads as it did. -/
def scalarChecksSpec : ChangeSpec := { name := "scalarChecks", fn := fun _ => fun
  | [d1, d2, d3] => { results := [.lit (.bool true)], args := [d1, d2, d3] }
  | _ => none }
def scalarChecksRow : OpenClaim := { program := "ytmnhahilbbnkkaadoor", sum := "0a5ffdb0febdda9ba75d60847ec121af3fe2072195e8f9c64a8e618ba028af2a", func := "warehouse/warehouselaw9.ScalarChecks", spec := "scalarChecks", inPlace := ["internal/bytealg.IndexByteString", "internal/bytealg.IndexString"], unfollowed := true, recurses := true, named := ["warehouse/token.words", "internal/bytealg.MaxLen"], apart := false, laid := [("warehouse/token.words", laid_warehouse_token_words)] }
def ScalarChecksSaid : Prop := scalarChecksRow.holds Tryd.pinned (OpenSpec.ofChange scalarChecksSpec)

/-- ITS FALSE NEIGHBOUR: 'it returns false'. Refute it at one input. -/
def scalarChecksWrong : ChangeSpec := { name := "scalarChecks", fn := fun _ => fun
  | [d1, d2, d3] => { results := [.lit (.bool false)], args := [d1, d2, d3] }
  | _ => none }
def ScalarChecksWrongFalsely : Prop := scalarChecksRow.holds Tryd.pinned (OpenSpec.ofChange scalarChecksWrong)

/-- 'warehouselaw9.ScalarOrder': WHATEVER THE INPUT: true; the input reads as it did. -/
def scalarOrderSpec : ChangeSpec := { name := "scalarOrder", fn := fun _ => fun
  | [d1, d2, d3] => { results := [.lit (.bool true)], args := [d1, d2, d3] }
  | _ => none }
def scalarOrderRow : OpenClaim := { program := "ytmnhahilbbnkkaadoor", sum := "0a5ffdb0febdda9ba75d60847ec121af3fe2072195e8f9c64a8e618ba028af2a", func := "warehouse/warehouselaw9.ScalarOrder", spec := "scalarOrder", inPlace := ["internal/bytealg.IndexByteString", "internal/bytealg.IndexString"], unfollowed := true, recurses := true, named := ["warehouse/token.words", "internal/bytealg.MaxLen"], apart := false, laid := [("warehouse/token.words", laid_warehouse_token_words)] }
def ScalarOrderSaid : Prop := scalarOrderRow.holds Tryd.pinned (OpenSpec.ofChange scalarOrderSpec)

/-- ITS FALSE NEIGHBOUR: 'it returns false'. Refute it at one input. -/
def scalarOrderWrong : ChangeSpec := { name := "scalarOrder", fn := fun _ => fun
  | [d1, d2, d3] => { results := [.lit (.bool false)], args := [d1, d2, d3] }
  | _ => none }
def ScalarOrderWrongFalsely : Prop := scalarOrderRow.holds Tryd.pinned (OpenSpec.ofChange scalarOrderWrong)

/- THE SECOND FORM. 'bulk': how many values and letters a reading holds, each counted each time it is reached (what is shared counts as often as it is met; a slice's spare places count too). A statement '..UptoSaid' is the law's where the arguments, and the package variables that the reading takes, are together of bulk at most 1048576: NARROWER than '..Said'. Prove '..Said' where nothing that the law and all that it calls make is longer than what came in: it says more and counts as full. Else prove '..UptoSaid'. A law counts once. -/
mutual
def uptoBulk {H : Type} : DataW H → Nat
  | .lit (.string bytes) => bytes.length + 1
  | .lit _ => 1
  | .nil => 1
  | .ptr d => uptoBulk d + 1
  | .slice elems spare => uptoBulkAll elems + uptoBulkAll spare + 1
  | .agg parts => uptoBulkAll parts + 1
  | .iface _ d => uptoBulk d + 1
  | .map entries => uptoBulkEntries entries + 1
  | .held _ => 1
def uptoBulkAll {H : Type} : List (DataW H) → Nat
  | [] => 0
  | d :: r => uptoBulk d + uptoBulkAll r
def uptoBulkEntries {H : Type} : List (Lit × DataW H) → Nat
  | [] => 0
  | x :: r => uptoBulkEntry x + uptoBulkEntries r
def uptoBulkEntry {H : Type} : Lit × DataW H → Nat
  | (.string bytes, d) => bytes.length + uptoBulk d + 1
  | (_, d) => uptoBulk d + 1
 end
def uptoSmall : (H : Type) → List (DataW H) → Bool := fun _ ds => decide (uptoBulkAll ds ≤ 1048576)
def OpenSpec.upto (s : _root_.Go.ChangeSpec) : _root_.Go.OpenSpec := { _root_.Go.OpenSpec.ofChange s with cond := some uptoSmall }

/-- 'warehouselaw9.ScalarChecks', WHERE WHAT IT READS IS OF BULK AT MOST 1048576: true; the input reads as it did. -/
def scalarChecksUptoRow : OpenClaim := { program := "ytmnhahilbbnkkaadoor", sum := "0a5ffdb0febdda9ba75d60847ec121af3fe2072195e8f9c64a8e618ba028af2a", func := "warehouse/warehouselaw9.ScalarChecks", spec := "scalarChecks", inPlace := ["internal/bytealg.IndexByteString", "internal/bytealg.IndexString"], unfollowed := true, recurses := true, named := ["warehouse/token.words", "internal/bytealg.MaxLen"], apart := false, laid := [("warehouse/token.words", laid_warehouse_token_words)], narrowed := true }
def ScalarChecksUptoSaid : Prop := scalarChecksUptoRow.holds Tryd.pinned (OpenSpec.upto scalarChecksSpec)

/-- 'warehouselaw9.ScalarOrder', WHERE WHAT IT READS IS OF BULK AT MOST 1048576: true; the input reads as it did. -/
def scalarOrderUptoRow : OpenClaim := { program := "ytmnhahilbbnkkaadoor", sum := "0a5ffdb0febdda9ba75d60847ec121af3fe2072195e8f9c64a8e618ba028af2a", func := "warehouse/warehouselaw9.ScalarOrder", spec := "scalarOrder", inPlace := ["internal/bytealg.IndexByteString", "internal/bytealg.IndexString"], unfollowed := true, recurses := true, named := ["warehouse/token.words", "internal/bytealg.MaxLen"], apart := false, laid := [("warehouse/token.words", laid_warehouse_token_words)], narrowed := true }
def ScalarOrderUptoSaid : Prop := scalarOrderUptoRow.holds Tryd.pinned (OpenSpec.upto scalarOrderSpec)

end Rows
end Go.Proofs.YtmnhahilbbnkkaaDoor
