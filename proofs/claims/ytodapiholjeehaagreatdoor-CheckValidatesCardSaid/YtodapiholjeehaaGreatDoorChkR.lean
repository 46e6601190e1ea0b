/-
  warehouseref28.UsesOther, table, holds. (Printed by gen_valr.py.)
-/
import Derived.Test.YtodapiholjeehaaGreatDoorChkA
import Derived.Test.YtodapiholjeehaaGreatDoorCls
import Derived.Test.YtodapiholjeehaaGreatDoorEvR
namespace Go.Proofs.YtodapiholjeehaaGreatDoor
open Go.RowKit
set_option linter.unusedSimpArgs false
set_option linter.unusedVariables false
set_option maxRecDepth 100000 in
theorem usesO_ref (w : World) (x : Chk) (A : Option Addr) (n c : Nat) (A' : Option Addr) (n' c' : Nat) (A'' : Option Addr) (n'' c'' : Nat) : Calls Tryz.prog 50 #[.agg (chkCells x A n c A' n' c' A'' n'' c'').toArray] w fun e w' => e = .returned (.bool (usesO x.kind)) ∧ Below w.heap.size w w' := by
  rw [usesO]
  simp only [chkCells]
  cases h3 : (x.kind == 3)
  · go_enter Tryz.func50, Tryz.ntmps50
    go_wp2_with fail
    obtain ⟨W1, hW1⟩ : ∃ W, W = w.alloc (.cells #[.string x.name, .string x.table, .int .i64 x.kind, .slice A n c, .string x.other, .slice A' n' c', .int .i64 x.low, .int .i64 x.high, .slice A'' n'' c'', .int .i64 x.ln, .int .i64 x.ld, .int .i64 x.mn, .int .i64 x.md, .int .i64 x.policy] 27) := ⟨_, rfl⟩
    obtain ⟨hbW1, SZW1, g0, g1, g2, g3, g4, g5, g6, g7, g8, g9, g10, g11, g12, g13⟩ := boxed14 hW1 rfl
    rw [← hW1]
    clear hW1
    have LST1 := hide hbW1
    have SG1 := hide hbW1
    clear hbW1
    have LR := lt_of_cell g0
    go_wp2
    go_ret
    exact ⟨ret_bool (by simp), SG1.out⟩
  · go_enter Tryz.func50, Tryz.ntmps50
    go_wp2_with fail
    obtain ⟨W1, hW1⟩ : ∃ W, W = w.alloc (.cells #[.string x.name, .string x.table, .int .i64 x.kind, .slice A n c, .string x.other, .slice A' n' c', .int .i64 x.low, .int .i64 x.high, .slice A'' n'' c'', .int .i64 x.ln, .int .i64 x.ld, .int .i64 x.mn, .int .i64 x.md, .int .i64 x.policy] 27) := ⟨_, rfl⟩
    obtain ⟨hbW1, SZW1, g0, g1, g2, g3, g4, g5, g6, g7, g8, g9, g10, g11, g12, g13⟩ := boxed14 hW1 rfl
    rw [← hW1]
    clear hW1
    have LST2 := hide hbW1
    have SG2 := hide hbW1
    clear hbW1
    have LR := lt_of_cell g0
    go_wp2
    go_ret
    exact ⟨ret_bool (by simp), SG2.out⟩
end Go.Proofs.YtodapiholjeehaaGreatDoor
