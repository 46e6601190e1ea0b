/-
  Bits of ints: '&' with a mask is from 0 to the mask; shifts to the right.
-/
import Derived.Test.YtmnhahilbbnkkaaKit
namespace Go.Proofs.Ytmnhahilbbnkkaa
set_option linter.unusedVariables false
open Go.RowKit
set_option linter.unusedSimpArgs false

theorem and_i64_range (x : Int) (m : Nat) (hm : m < 9223372036854775808) : 0 ≤ bits .and .i64 x (m : Int) ∧ bits .and .i64 x (m : Int) ≤ (m : Int) := by
  have e : bits .and .i64 x (m : Int) = IntKind.i64.wrap ((BitVec.ofInt 64 x &&& BitVec.ofInt 64 (m : Int)).toNat : Int) := rfl
  have h2 : (BitVec.ofInt 64 (m : Int)).toNat = m := by
    rw [BitVec.ofInt_natCast, BitVec.toNat_ofNat]; exact Nat.mod_eq_of_lt (by omega)
  rw [e, BitVec.toNat_and, h2, IntKind.wrap_i64]
  have h3 : (BitVec.ofInt 64 x).toNat &&& m ≤ m := Nat.and_le_right
  generalize (BitVec.ofInt 64 x).toNat &&& m = y at h3
  omega
end Go.Proofs.Ytmnhahilbbnkkaa
