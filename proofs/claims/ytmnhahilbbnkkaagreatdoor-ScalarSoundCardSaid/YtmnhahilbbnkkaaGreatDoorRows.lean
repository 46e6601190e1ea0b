/-
  NARROWER THAN 'FOR EVERY INPUT', by the rows' own cells (each row's printed sentence says how): ScalarTypes: laid · ScalarEvals: laid · ScalarSound: laid · ScalarLogic: laid · ScalarDepends: laid.
  DERIVED. THE GIVEN ROWS OF THIS SEAT. 5 by the template 'for every input the law returns true; each argument reads behind the call as it read before'; 0 by the template 'total and deterministic' (their statements: YtmnhahilbbnkkaaGreatDoorTotals.lean).
  GIVEN WITH THE SEED: the statements are not yours to turn. If you find one false, say at which input.
  Laid BY PROGRAM, IN A SANDBOX (cutbox-rows.mjs): the forced cells as the released guide's own fill.sh prints them over the translation 8a3d3e31fee9e59e… (all of the seat's roots in one cut). By AI agents, Wed Nov 11 2026. No macro, syntax, notation, axiom, sorry.
-/
import Derived.Test.YtmnhahilbbnkkaaGreatDoorChecked
import GoSem.Claim
import GoSem.ClaimJoined
import GoSem.ClaimMapViews
import Derived.JoinedTies
import Derived.KernelRfl
namespace Go.Proofs.YtmnhahilbbnkkaaGreatDoor
/- THE CELL 'sum', in the pinned program and in every row, IS THE sha256 OF THE DUMP (.gsa) THAT YtmnhahilbbnkkaaGreatDoorProg.lean LOADS. Nothing in Lean hashes anything: it is a label: what it is worth is what the hold of that sum in a sandbox is worth. -/
noncomputable def Tryz.pinned : Pinned := { name := "ytmnhahilbbnkkaagreatdoor", sum := "8a3d3e31fee9e59eacd1db7ca960dc73b0d9d7ee3eef07ce6dee4810676b35ee", checked := Tryz.checked }
namespace Rows
def none {H : Type} : Left H := { results := [], args := [] }

/- WHAT THE LISTED PACKAGE-LEVEL VARIABLES READ AS WHEN THE CALL BEGINS. Each datum BY PROGRAM (the guide's laid-datum.mjs) off the statement by which the dump's own 'gosem.cut.vars' lays the variable. In a bare row this is a premise. The card (YtmnhahilbbnkkaaGreatDoorCards.lean) ties it to the program's text. -/
def laid_warehouse_token_words {H : Type} : DataW H := .slice [.lit (.string [97, 110, 100]), .lit (.string [111, 114]), .lit (.string [110, 111, 116]), .lit (.string [110, 117, 108, 108]), .lit (.string [116, 114, 117, 101]), .lit (.string [102, 97, 108, 115, 101]), .lit (.string [98, 121]), .lit (.string [115, 101, 108, 102])] []

/-- 'warehouselaw9.ScalarTypes': WHATEVER THE INPUT: true; the input reads as it did. -/
def scalarTypesSpec : ChangeSpec := { name := "scalarTypes", fn := fun _ => fun
  | [d1, d2, d3, d4, d5] => { results := [.lit (.bool true)], args := [d1, d2, d3, d4, d5] }
  | _ => none }
def scalarTypesRow : OpenClaim := { program := "ytmnhahilbbnkkaagreatdoor", sum := "8a3d3e31fee9e59eacd1db7ca960dc73b0d9d7ee3eef07ce6dee4810676b35ee", func := "warehouse/warehouselaw9.ScalarTypes", spec := "scalarTypes", inPlace := ["internal/bytealg.IndexByteString", "internal/bytealg.IndexString"], unfollowed := true, recurses := true, named := ["warehouse/token.words", "internal/bytealg.MaxLen"], apart := false, laid := [("warehouse/token.words", laid_warehouse_token_words)] }
def ScalarTypesSaid : Prop := scalarTypesRow.holds Tryz.pinned (OpenSpec.ofChange scalarTypesSpec)

/-- ITS FALSE NEIGHBOUR: 'it returns false'. Refute it at one input. -/
def scalarTypesWrong : ChangeSpec := { name := "scalarTypes", fn := fun _ => fun
  | [d1, d2, d3, d4, d5] => { results := [.lit (.bool false)], args := [d1, d2, d3, d4, d5] }
  | _ => none }
def ScalarTypesWrongFalsely : Prop := scalarTypesRow.holds Tryz.pinned (OpenSpec.ofChange scalarTypesWrong)

/-- 'warehouselaw9.ScalarEvals': WHATEVER THE INPUT: true; the input reads as it did. -/
def scalarEvalsSpec : ChangeSpec := { name := "scalarEvals", fn := fun _ => fun
  | [d1, d2, d3, d4, d5, d6] => { results := [.lit (.bool true)], args := [d1, d2, d3, d4, d5, d6] }
  | _ => none }
def scalarEvalsRow : OpenClaim := { program := "ytmnhahilbbnkkaagreatdoor", sum := "8a3d3e31fee9e59eacd1db7ca960dc73b0d9d7ee3eef07ce6dee4810676b35ee", func := "warehouse/warehouselaw9.ScalarEvals", spec := "scalarEvals", inPlace := ["internal/bytealg.IndexByteString", "internal/bytealg.IndexString"], unfollowed := true, recurses := true, named := ["warehouse/token.words", "internal/bytealg.MaxLen"], apart := false, laid := [("warehouse/token.words", laid_warehouse_token_words)] }
def ScalarEvalsSaid : Prop := scalarEvalsRow.holds Tryz.pinned (OpenSpec.ofChange scalarEvalsSpec)

/-- ITS FALSE NEIGHBOUR: 'it returns false'. Refute it at one input. -/
def scalarEvalsWrong : ChangeSpec := { name := "scalarEvals", fn := fun _ => fun
  | [d1, d2, d3, d4, d5, d6] => { results := [.lit (.bool false)], args := [d1, d2, d3, d4, d5, d6] }
  | _ => none }
def ScalarEvalsWrongFalsely : Prop := scalarEvalsRow.holds Tryz.pinned (OpenSpec.ofChange scalarEvalsWrong)

/-- 'warehouselaw9.ScalarSound': WHATEVER THE INPUT: true; the input reads as it did. -/
def scalarSoundSpec : ChangeSpec := { name := "scalarSound", fn := fun _ => fun
  | [d1, d2, d3] => { results := [.lit (.bool true)], args := [d1, d2, d3] }
  | _ => none }
def scalarSoundRow : OpenClaim := { program := "ytmnhahilbbnkkaagreatdoor", sum := "8a3d3e31fee9e59eacd1db7ca960dc73b0d9d7ee3eef07ce6dee4810676b35ee", func := "warehouse/warehouselaw9.ScalarSound", spec := "scalarSound", inPlace := ["internal/bytealg.IndexByteString", "internal/bytealg.IndexString"], unfollowed := true, recurses := true, named := ["warehouse/token.words", "internal/bytealg.MaxLen"], apart := false, laid := [("warehouse/token.words", laid_warehouse_token_words)] }
def ScalarSoundSaid : Prop := scalarSoundRow.holds Tryz.pinned (OpenSpec.ofChange scalarSoundSpec)

/-- ITS FALSE NEIGHBOUR: 'it returns false'. Refute it at one input. -/
def scalarSoundWrong : ChangeSpec := { name := "scalarSound", fn := fun _ => fun
  | [d1, d2, d3] => { results := [.lit (.bool false)], args := [d1, d2, d3] }
  | _ => none }
def ScalarSoundWrongFalsely : Prop := scalarSoundRow.holds Tryz.pinned (OpenSpec.ofChange scalarSoundWrong)

/-- 'warehouselaw9.ScalarLogic': WHATEVER THE INPUT: true; the input reads as it did. -/
def scalarLogicSpec : ChangeSpec := { name := "scalarLogic", fn := fun _ => fun
  | [d1, d2, d3] => { results := [.lit (.bool true)], args := [d1, d2, d3] }
  | _ => none }
def scalarLogicRow : OpenClaim := { program := "ytmnhahilbbnkkaagreatdoor", sum := "8a3d3e31fee9e59eacd1db7ca960dc73b0d9d7ee3eef07ce6dee4810676b35ee", func := "warehouse/warehouselaw9.ScalarLogic", spec := "scalarLogic", inPlace := ["internal/bytealg.IndexByteString", "internal/bytealg.IndexString"], unfollowed := true, recurses := true, named := ["warehouse/token.words", "internal/bytealg.MaxLen"], apart := false, laid := [("warehouse/token.words", laid_warehouse_token_words)] }
def ScalarLogicSaid : Prop := scalarLogicRow.holds Tryz.pinned (OpenSpec.ofChange scalarLogicSpec)

/-- ITS FALSE NEIGHBOUR: 'it returns false'. Refute it at one input. -/
def scalarLogicWrong : ChangeSpec := { name := "scalarLogic", fn := fun _ => fun
  | [d1, d2, d3] => { results := [.lit (.bool false)], args := [d1, d2, d3] }
  | _ => none }
def ScalarLogicWrongFalsely : Prop := scalarLogicRow.holds Tryz.pinned (OpenSpec.ofChange scalarLogicWrong)

/-- 'warehouselaw9.ScalarDepends': WHATEVER THE INPUT: true; the input reads as it did. -/
def scalarDependsSpec : ChangeSpec := { name := "scalarDepends", fn := fun _ => fun
  | [d1, d2, d3, d4] => { results := [.lit (.bool true)], args := [d1, d2, d3, d4] }
  | _ => none }
def scalarDependsRow : OpenClaim := { program := "ytmnhahilbbnkkaagreatdoor", sum := "8a3d3e31fee9e59eacd1db7ca960dc73b0d9d7ee3eef07ce6dee4810676b35ee", func := "warehouse/warehouselaw9.ScalarDepends", spec := "scalarDepends", inPlace := ["internal/bytealg.IndexByteString", "internal/bytealg.IndexString"], unfollowed := true, recurses := true, named := ["warehouse/token.words", "internal/bytealg.MaxLen"], apart := false, laid := [("warehouse/token.words", laid_warehouse_token_words)] }
def ScalarDependsSaid : Prop := scalarDependsRow.holds Tryz.pinned (OpenSpec.ofChange scalarDependsSpec)

/-- ITS FALSE NEIGHBOUR: 'it returns false'. Refute it at one input. -/
def scalarDependsWrong : ChangeSpec := { name := "scalarDepends", fn := fun _ => fun
  | [d1, d2, d3, d4] => { results := [.lit (.bool false)], args := [d1, d2, d3, d4] }
  | _ => none }
def ScalarDependsWrongFalsely : Prop := scalarDependsRow.holds Tryz.pinned (OpenSpec.ofChange scalarDependsWrong)

/- THE SECOND FORM. 'bulk': how many values and letters a reading holds, each counted each time it is reached (what is shared counts as often as it is met; a slice's spare places count too). A statement '..UptoSaid' is the law's where the arguments, and the package variables that the reading takes, are together of bulk at most 1048576: NARROWER than '..Said'. Prove '..Said' where nothing that the law and all that it calls make is longer than what came in: it says more and counts as full. Else prove '..UptoSaid'. A law counts once. -/
mutual
def uptoBulk {H : Type} : DataW H → Nat
  | .lit (.string bytes) => bytes.length + 1
  | .lit _ => 1
  | .nil => 1
  | .ptr d => uptoBulk d + 1
  | .slice elems spare => uptoBulkAll elems + uptoBulkAll spare + 1
  | .agg parts => uptoBulkAll parts + 1
  | .iface _ d => uptoBulk d + 1
  | .map entries => uptoBulkEntries entries + 1
  | .held _ => 1
def uptoBulkAll {H : Type} : List (DataW H) → Nat
  | [] => 0
  | d :: r => uptoBulk d + uptoBulkAll r
def uptoBulkEntries {H : Type} : List (Lit × DataW H) → Nat
  | [] => 0
  | x :: r => uptoBulkEntry x + uptoBulkEntries r
def uptoBulkEntry {H : Type} : Lit × DataW H → Nat
  | (.string bytes, d) => bytes.length + uptoBulk d + 1
  | (_, d) => uptoBulk d + 1
 end
def uptoSmall : (H : Type) → List (DataW H) → Bool := fun _ ds => decide (uptoBulkAll ds ≤ 1048576)
def OpenSpec.upto (s : _root_.Go.ChangeSpec) : _root_.Go.OpenSpec := { _root_.Go.OpenSpec.ofChange s with cond := some uptoSmall }

/-- 'warehouselaw9.ScalarTypes', WHERE WHAT IT READS IS OF BULK AT MOST 1048576: true; the input reads as it did. -/
def scalarTypesUptoRow : OpenClaim := { program := "ytmnhahilbbnkkaagreatdoor", sum := "8a3d3e31fee9e59eacd1db7ca960dc73b0d9d7ee3eef07ce6dee4810676b35ee", func := "warehouse/warehouselaw9.ScalarTypes", spec := "scalarTypes", inPlace := ["internal/bytealg.IndexByteString", "internal/bytealg.IndexString"], unfollowed := true, recurses := true, named := ["warehouse/token.words", "internal/bytealg.MaxLen"], apart := false, laid := [("warehouse/token.words", laid_warehouse_token_words)], narrowed := true }
def ScalarTypesUptoSaid : Prop := scalarTypesUptoRow.holds Tryz.pinned (OpenSpec.upto scalarTypesSpec)

/-- 'warehouselaw9.ScalarEvals', WHERE WHAT IT READS IS OF BULK AT MOST 1048576: true; the input reads as it did. -/
def scalarEvalsUptoRow : OpenClaim := { program := "ytmnhahilbbnkkaagreatdoor", sum := "8a3d3e31fee9e59eacd1db7ca960dc73b0d9d7ee3eef07ce6dee4810676b35ee", func := "warehouse/warehouselaw9.ScalarEvals", spec := "scalarEvals", inPlace := ["internal/bytealg.IndexByteString", "internal/bytealg.IndexString"], unfollowed := true, recurses := true, named := ["warehouse/token.words", "internal/bytealg.MaxLen"], apart := false, laid := [("warehouse/token.words", laid_warehouse_token_words)], narrowed := true }
def ScalarEvalsUptoSaid : Prop := scalarEvalsUptoRow.holds Tryz.pinned (OpenSpec.upto scalarEvalsSpec)

/-- 'warehouselaw9.ScalarSound', WHERE WHAT IT READS IS OF BULK AT MOST 1048576: true; the input reads as it did. -/
def scalarSoundUptoRow : OpenClaim := { program := "ytmnhahilbbnkkaagreatdoor", sum := "8a3d3e31fee9e59eacd1db7ca960dc73b0d9d7ee3eef07ce6dee4810676b35ee", func := "warehouse/warehouselaw9.ScalarSound", spec := "scalarSound", inPlace := ["internal/bytealg.IndexByteString", "internal/bytealg.IndexString"], unfollowed := true, recurses := true, named := ["warehouse/token.words", "internal/bytealg.MaxLen"], apart := false, laid := [("warehouse/token.words", laid_warehouse_token_words)], narrowed := true }
def ScalarSoundUptoSaid : Prop := scalarSoundUptoRow.holds Tryz.pinned (OpenSpec.upto scalarSoundSpec)

/-- 'warehouselaw9.ScalarLogic', WHERE WHAT IT READS IS OF BULK AT MOST 1048576: true; the input reads as it did. -/
def scalarLogicUptoRow : OpenClaim := { program := "ytmnhahilbbnkkaagreatdoor", sum := "8a3d3e31fee9e59eacd1db7ca960dc73b0d9d7ee3eef07ce6dee4810676b35ee", func := "warehouse/warehouselaw9.ScalarLogic", spec := "scalarLogic", inPlace := ["internal/bytealg.IndexByteString", "internal/bytealg.IndexString"], unfollowed := true, recurses := true, named := ["warehouse/token.words", "internal/bytealg.MaxLen"], apart := false, laid := [("warehouse/token.words", laid_warehouse_token_words)], narrowed := true }
def ScalarLogicUptoSaid : Prop := scalarLogicUptoRow.holds Tryz.pinned (OpenSpec.upto scalarLogicSpec)

/-- 'warehouselaw9.ScalarDepends', WHERE WHAT IT READS IS OF BULK AT MOST 1048576: true; the input reads as it did. -/
def scalarDependsUptoRow : OpenClaim := { program := "ytmnhahilbbnkkaagreatdoor", sum := "8a3d3e31fee9e59eacd1db7ca960dc73b0d9d7ee3eef07ce6dee4810676b35ee", func := "warehouse/warehouselaw9.ScalarDepends", spec := "scalarDepends", inPlace := ["internal/bytealg.IndexByteString", "internal/bytealg.IndexString"], unfollowed := true, recurses := true, named := ["warehouse/token.words", "internal/bytealg.MaxLen"], apart := false, laid := [("warehouse/token.words", laid_warehouse_token_words)], narrowed := true }
def ScalarDependsUptoSaid : Prop := scalarDependsUptoRow.holds Tryz.pinned (OpenSpec.upto scalarDependsSpec)

end Rows
end Go.Proofs.YtmnhahilbbnkkaaGreatDoor
