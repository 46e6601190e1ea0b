/-
  No cell of these rows narrows 'for every input' (looked for: loops, veiled, ifaces, maps, wideKeys, modest, calm, conditions, laid).
  DERIVED. THE GIVEN ROWS OF THIS SEAT. 6 by the template 'for every input the law returns true; each argument reads behind the call as it read before'; 0 by the template 'total and deterministic' (their statements: YtlbhnfnecfllkaaGreatTotals.lean).
  GIVEN WITH THE SEED: the statements are not yours to turn. If you find one false, say at which input.
  Laid BY PROGRAM, IN A SANDBOX (cutbox-rows.mjs): the forced cells as the released guide's own fill.sh prints them over the translation 82531b688cba2339… (all of the seat's roots in one cut). By AI agents, Wed Nov 11 2026. No macro, syntax, notation, axiom, sorry.
-/
import Derived.Test.YtlbhnfnecfllkaaGreatChecked
import GoSem.Claim
import GoSem.ClaimJoined
import GoSem.ClaimMapViews
import Derived.JoinedTies
import Derived.KernelRfl
namespace Go.Proofs.YtlbhnfnecfllkaaGreat
/- THE CELL 'sum', in the pinned program and in every row, IS THE sha256 OF THE DUMP (.gsa) THAT YtlbhnfnecfllkaaGreatProg.lean LOADS. Nothing in Lean hashes anything: it is a label: what it is worth is what the hold of that sum in a sandbox is worth. -/
noncomputable def Tryz.pinned : Pinned := { name := "ytlbhnfnecfllkaagreat", sum := "82531b688cba2339b97a5b5c80b7d180369ea25138b935096d9fa9f991826335", checked := Tryz.checked }
namespace Rows
def none {H : Type} : Left H := { results := [], args := [] }

/-- 'warehouselaw22.PartitionSplit': WHATEVER THE INPUT: true; the input reads as it did. -/
def partitionSplitSpec : ChangeSpec := { name := "partitionSplit", fn := fun _ => fun
  | [d1, d2, d3, d4, d5, d6, d7] => { results := [.lit (.bool true)], args := [d1, d2, d3, d4, d5, d6, d7] }
  | _ => none }
def partitionSplitRow : OpenClaim := { program := "ytlbhnfnecfllkaagreat", sum := "82531b688cba2339b97a5b5c80b7d180369ea25138b935096d9fa9f991826335", func := "warehouse/warehouselaw22.PartitionSplit", spec := "partitionSplit", unfollowed := true, recurses := true, apart := false }
def PartitionSplitSaid : Prop := partitionSplitRow.holds Tryz.pinned (OpenSpec.ofChange partitionSplitSpec)

/-- ITS FALSE NEIGHBOUR: 'it returns false'. Refute it at one input. -/
def partitionSplitWrong : ChangeSpec := { name := "partitionSplit", fn := fun _ => fun
  | [d1, d2, d3, d4, d5, d6, d7] => { results := [.lit (.bool false)], args := [d1, d2, d3, d4, d5, d6, d7] }
  | _ => none }
def PartitionSplitWrongFalsely : Prop := partitionSplitRow.holds Tryz.pinned (OpenSpec.ofChange partitionSplitWrong)

/-- 'warehouselaw22.PartitionPick': WHATEVER THE INPUT: true; the input reads as it did. -/
def partitionPickSpec : ChangeSpec := { name := "partitionPick", fn := fun _ => fun
  | [d1, d2, d3, d4, d5, d6, d7, d8] => { results := [.lit (.bool true)], args := [d1, d2, d3, d4, d5, d6, d7, d8] }
  | _ => none }
def partitionPickRow : OpenClaim := { program := "ytlbhnfnecfllkaagreat", sum := "82531b688cba2339b97a5b5c80b7d180369ea25138b935096d9fa9f991826335", func := "warehouse/warehouselaw22.PartitionPick", spec := "partitionPick", unfollowed := true, recurses := true, apart := false }
def PartitionPickSaid : Prop := partitionPickRow.holds Tryz.pinned (OpenSpec.ofChange partitionPickSpec)

/-- ITS FALSE NEIGHBOUR: 'it returns false'. Refute it at one input. -/
def partitionPickWrong : ChangeSpec := { name := "partitionPick", fn := fun _ => fun
  | [d1, d2, d3, d4, d5, d6, d7, d8] => { results := [.lit (.bool false)], args := [d1, d2, d3, d4, d5, d6, d7, d8] }
  | _ => none }
def PartitionPickWrongFalsely : Prop := partitionPickRow.holds Tryz.pinned (OpenSpec.ofChange partitionPickWrong)

/-- 'warehouselaw22.PartitionReplace': WHATEVER THE INPUT: true; the input reads as it did. -/
def partitionReplaceSpec : ChangeSpec := { name := "partitionReplace", fn := fun _ => fun
  | [d1, d2, d3, d4, d5, d6, d7, d8, d9] => { results := [.lit (.bool true)], args := [d1, d2, d3, d4, d5, d6, d7, d8, d9] }
  | _ => none }
def partitionReplaceRow : OpenClaim := { program := "ytlbhnfnecfllkaagreat", sum := "82531b688cba2339b97a5b5c80b7d180369ea25138b935096d9fa9f991826335", func := "warehouse/warehouselaw22.PartitionReplace", spec := "partitionReplace", unfollowed := true, recurses := true, apart := false }
def PartitionReplaceSaid : Prop := partitionReplaceRow.holds Tryz.pinned (OpenSpec.ofChange partitionReplaceSpec)

/-- ITS FALSE NEIGHBOUR: 'it returns false'. Refute it at one input. -/
def partitionReplaceWrong : ChangeSpec := { name := "partitionReplace", fn := fun _ => fun
  | [d1, d2, d3, d4, d5, d6, d7, d8, d9] => { results := [.lit (.bool false)], args := [d1, d2, d3, d4, d5, d6, d7, d8, d9] }
  | _ => none }
def PartitionReplaceWrongFalsely : Prop := partitionReplaceRow.holds Tryz.pinned (OpenSpec.ofChange partitionReplaceWrong)

/-- 'warehouselaw22.PartitionChanged': WHATEVER THE INPUT: true; the input reads as it did. -/
def partitionChangedSpec : ChangeSpec := { name := "partitionChanged", fn := fun _ => fun
  | [d1, d2, d3, d4, d5, d6, d7, d8] => { results := [.lit (.bool true)], args := [d1, d2, d3, d4, d5, d6, d7, d8] }
  | _ => none }
def partitionChangedRow : OpenClaim := { program := "ytlbhnfnecfllkaagreat", sum := "82531b688cba2339b97a5b5c80b7d180369ea25138b935096d9fa9f991826335", func := "warehouse/warehouselaw22.PartitionChanged", spec := "partitionChanged", unfollowed := true, recurses := true, apart := false }
def PartitionChangedSaid : Prop := partitionChangedRow.holds Tryz.pinned (OpenSpec.ofChange partitionChangedSpec)

/-- ITS FALSE NEIGHBOUR: 'it returns false'. Refute it at one input. -/
def partitionChangedWrong : ChangeSpec := { name := "partitionChanged", fn := fun _ => fun
  | [d1, d2, d3, d4, d5, d6, d7, d8] => { results := [.lit (.bool false)], args := [d1, d2, d3, d4, d5, d6, d7, d8] }
  | _ => none }
def PartitionChangedWrongFalsely : Prop := partitionChangedRow.holds Tryz.pinned (OpenSpec.ofChange partitionChangedWrong)

/-- 'warehouselaw22.PartitionJoin': WHATEVER THE INPUT: true; the input reads as it did. -/
def partitionJoinSpec : ChangeSpec := { name := "partitionJoin", fn := fun _ => fun
  | [d1, d2, d3, d4] => { results := [.lit (.bool true)], args := [d1, d2, d3, d4] }
  | _ => none }
def partitionJoinRow : OpenClaim := { program := "ytlbhnfnecfllkaagreat", sum := "82531b688cba2339b97a5b5c80b7d180369ea25138b935096d9fa9f991826335", func := "warehouse/warehouselaw22.PartitionJoin", spec := "partitionJoin", unfollowed := true, recurses := true, apart := false }
def PartitionJoinSaid : Prop := partitionJoinRow.holds Tryz.pinned (OpenSpec.ofChange partitionJoinSpec)

/-- ITS FALSE NEIGHBOUR: 'it returns false'. Refute it at one input. -/
def partitionJoinWrong : ChangeSpec := { name := "partitionJoin", fn := fun _ => fun
  | [d1, d2, d3, d4] => { results := [.lit (.bool false)], args := [d1, d2, d3, d4] }
  | _ => none }
def PartitionJoinWrongFalsely : Prop := partitionJoinRow.holds Tryz.pinned (OpenSpec.ofChange partitionJoinWrong)

/-- 'warehouselaw22.PartitionOwns': WHATEVER THE INPUT: true; the input reads as it did. -/
def partitionOwnsSpec : ChangeSpec := { name := "partitionOwns", fn := fun _ => fun
  | [d1, d2, d3] => { results := [.lit (.bool true)], args := [d1, d2, d3] }
  | _ => none }
def partitionOwnsRow : OpenClaim := { program := "ytlbhnfnecfllkaagreat", sum := "82531b688cba2339b97a5b5c80b7d180369ea25138b935096d9fa9f991826335", func := "warehouse/warehouselaw22.PartitionOwns", spec := "partitionOwns", unfollowed := true, recurses := true, apart := false }
def PartitionOwnsSaid : Prop := partitionOwnsRow.holds Tryz.pinned (OpenSpec.ofChange partitionOwnsSpec)

/-- ITS FALSE NEIGHBOUR: 'it returns false'. Refute it at one input. -/
def partitionOwnsWrong : ChangeSpec := { name := "partitionOwns", fn := fun _ => fun
  | [d1, d2, d3] => { results := [.lit (.bool false)], args := [d1, d2, d3] }
  | _ => none }
def PartitionOwnsWrongFalsely : Prop := partitionOwnsRow.holds Tryz.pinned (OpenSpec.ofChange partitionOwnsWrong)

/- THE SECOND FORM. 'bulk': how many values and letters a reading holds, each counted each time it is reached (what is shared counts as often as it is met; a slice's spare places count too). A statement '..UptoSaid' is the law's where the arguments, and the package variables that the reading takes, are together of bulk at most 1048576: NARROWER than '..Said'. Prove '..Said' where nothing that the law and all that it calls make is longer than what came in: it says more and counts as full. Else prove '..UptoSaid'. A law counts once. -/
mutual
def uptoBulk {H : Type} : DataW H → Nat
  | .lit (.string bytes) => bytes.length + 1
  | .lit _ => 1
  | .nil => 1
  | .ptr d => uptoBulk d + 1
  | .slice elems spare => uptoBulkAll elems + uptoBulkAll spare + 1
  | .agg parts => uptoBulkAll parts + 1
  | .iface _ d => uptoBulk d + 1
  | .map entries => uptoBulkEntries entries + 1
  | .held _ => 1
def uptoBulkAll {H : Type} : List (DataW H) → Nat
  | [] => 0
  | d :: r => uptoBulk d + uptoBulkAll r
def uptoBulkEntries {H : Type} : List (Lit × DataW H) → Nat
  | [] => 0
  | x :: r => uptoBulkEntry x + uptoBulkEntries r
def uptoBulkEntry {H : Type} : Lit × DataW H → Nat
  | (.string bytes, d) => bytes.length + uptoBulk d + 1
  | (_, d) => uptoBulk d + 1
 end
def uptoSmall : (H : Type) → List (DataW H) → Bool := fun _ ds => decide (uptoBulkAll ds ≤ 1048576)
def OpenSpec.upto (s : _root_.Go.ChangeSpec) : _root_.Go.OpenSpec := { _root_.Go.OpenSpec.ofChange s with cond := some uptoSmall }

/-- 'warehouselaw22.PartitionSplit', WHERE WHAT IT READS IS OF BULK AT MOST 1048576: true; the input reads as it did. -/
def partitionSplitUptoRow : OpenClaim := { program := "ytlbhnfnecfllkaagreat", sum := "82531b688cba2339b97a5b5c80b7d180369ea25138b935096d9fa9f991826335", func := "warehouse/warehouselaw22.PartitionSplit", spec := "partitionSplit", unfollowed := true, recurses := true, apart := false, narrowed := true }
def PartitionSplitUptoSaid : Prop := partitionSplitUptoRow.holds Tryz.pinned (OpenSpec.upto partitionSplitSpec)

/-- 'warehouselaw22.PartitionPick', WHERE WHAT IT READS IS OF BULK AT MOST 1048576: true; the input reads as it did. -/
def partitionPickUptoRow : OpenClaim := { program := "ytlbhnfnecfllkaagreat", sum := "82531b688cba2339b97a5b5c80b7d180369ea25138b935096d9fa9f991826335", func := "warehouse/warehouselaw22.PartitionPick", spec := "partitionPick", unfollowed := true, recurses := true, apart := false, narrowed := true }
def PartitionPickUptoSaid : Prop := partitionPickUptoRow.holds Tryz.pinned (OpenSpec.upto partitionPickSpec)

/-- 'warehouselaw22.PartitionReplace', WHERE WHAT IT READS IS OF BULK AT MOST 1048576: true; the input reads as it did. -/
def partitionReplaceUptoRow : OpenClaim := { program := "ytlbhnfnecfllkaagreat", sum := "82531b688cba2339b97a5b5c80b7d180369ea25138b935096d9fa9f991826335", func := "warehouse/warehouselaw22.PartitionReplace", spec := "partitionReplace", unfollowed := true, recurses := true, apart := false, narrowed := true }
def PartitionReplaceUptoSaid : Prop := partitionReplaceUptoRow.holds Tryz.pinned (OpenSpec.upto partitionReplaceSpec)

/-- 'warehouselaw22.PartitionChanged', WHERE WHAT IT READS IS OF BULK AT MOST 1048576: true; the input reads as it did. -/
def partitionChangedUptoRow : OpenClaim := { program := "ytlbhnfnecfllkaagreat", sum := "82531b688cba2339b97a5b5c80b7d180369ea25138b935096d9fa9f991826335", func := "warehouse/warehouselaw22.PartitionChanged", spec := "partitionChanged", unfollowed := true, recurses := true, apart := false, narrowed := true }
def PartitionChangedUptoSaid : Prop := partitionChangedUptoRow.holds Tryz.pinned (OpenSpec.upto partitionChangedSpec)

/-- 'warehouselaw22.PartitionJoin', WHERE WHAT IT READS IS OF BULK AT MOST 1048576: true; the input reads as it did. -/
def partitionJoinUptoRow : OpenClaim := { program := "ytlbhnfnecfllkaagreat", sum := "82531b688cba2339b97a5b5c80b7d180369ea25138b935096d9fa9f991826335", func := "warehouse/warehouselaw22.PartitionJoin", spec := "partitionJoin", unfollowed := true, recurses := true, apart := false, narrowed := true }
def PartitionJoinUptoSaid : Prop := partitionJoinUptoRow.holds Tryz.pinned (OpenSpec.upto partitionJoinSpec)

/-- 'warehouselaw22.PartitionOwns', WHERE WHAT IT READS IS OF BULK AT MOST 1048576: true; the input reads as it did. -/
def partitionOwnsUptoRow : OpenClaim := { program := "ytlbhnfnecfllkaagreat", sum := "82531b688cba2339b97a5b5c80b7d180369ea25138b935096d9fa9f991826335", func := "warehouse/warehouselaw22.PartitionOwns", spec := "partitionOwns", unfollowed := true, recurses := true, apart := false, narrowed := true }
def PartitionOwnsUptoSaid : Prop := partitionOwnsUptoRow.holds Tryz.pinned (OpenSpec.upto partitionOwnsSpec)

end Rows
end Go.Proofs.YtlbhnfnecfllkaaGreat
