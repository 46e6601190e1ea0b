/-
  schema.Index (slices.IndexFunc over columns) and warehouseref5.Index.
-/
import Derived.Test.YtmnhahilbbnkkaaProg
import Derived.Test.YtmnhahilbbnkkaaKit
namespace Go.Proofs.Ytmnhahilbbnkkaa
open Go.RowKit
set_option linter.unusedSimpArgs false
set_option linter.unusedVariables false

theorem index_clo (c : Col) (name : ByteArray) (g : Nat) (w : World) (hg : w.cell? ⟨g, 0, none⟩ = some (.string name)) (hlt : g < w.heap.size) :
    Calls Try.prog 39 #[.agg c.cells.toArray, .pointer (some ⟨g, 0, none⟩)] w fun e w' => e = .returned (.bool (c.name.toList == name.toList)) ∧ Below w.heap.size w w' := by
  simp only [Col.cells]
  go_enter Try.func39, Try.ntmps39
  go_wp2
  go_ret
  exact ⟨rfl, below_alloc⟩

set_option maxRecDepth 100000 in
theorem indexFunc_col (w : World) (A : Option Addr) (n c : Nat) (xs : List Col) (hx : In w A n c xs) (name : ByteArray) (g : Nat) (hg : w.cell? ⟨g, 0, none⟩ = some (.string name)) (hlt : g < w.heap.size) :
    Calls Try.prog 38 #[.slice A n c, .func (.func 39) #[] #[.pointer (some ⟨g, 0, none⟩)]] w
      fun e w' => e = .returned (.int .i64 (index xs name)) ∧ Below w.heap.size w w' := by
  have h63 := hx.le
  go_enter Try.func38, Try.ntmps38
  go_wp2
  go_loopw [8] (fun i wr => ∃ k : Nat, k ≤ n ∧ i = .int .i64 k ∧ index xs name = indexFrom name k (xs.drop k) ∧ Below w.heap.size w wr) (fun i _ => n - (intOf i).toNat)
  case atStart => exact ⟨0, Nat.zero_le _, rfl, rfl, Below.refl _ _⟩
  case round =>
    obtain ⟨k, hk, rfl, heq, hb⟩ := hrel
    have HE := hide heq
    clear heq
    by_cases hlt' : k < n
    · obtain ⟨b, off, x, rfl, hB, HX, e0, e1, e2, e3⟩ := (hx.below hb).col hlt'
      go_wp2_with fail
      refine (index_clo x name g _ (bat hb hlt hg) (Nat.lt_of_lt_of_le hlt hb.size)).mono ?_
      rintro e w1 ⟨rfl, hb1⟩
      have hbb := below_trans hb hb1
      clear hb1 e0 e1 e2
      cases hz : (x.name.toList == name.toList)
      · go_wp2
        go_roundw
        case rel => exact ⟨k + 1, by omega, by go_num, by rw [HE.out, HX.out, indexFrom, if_neg (by simp [hz])], hbb⟩
        case measure => simp [intOf]; omega
      · go_wp2
        go_ret
        exact ⟨ret_int (by rw [HE.out, HX.out, indexFrom, if_pos hz]), hbb⟩
    · go_wp2
      go_ret
      exact ⟨ret_int (by rw [HE.out, drop_end hx.len (by omega), indexFrom]), hb⟩

theorem index_any (w : World) (A : Option Addr) (n c : Nat) (xs : List Col) (hx : In w A n c xs) (name : ByteArray) :
    Calls Try.prog 24 #[.slice A n c, .string name] w fun e w' => e = .returned (.int .i64 (index xs name)) ∧ Below w.heap.size w w' := by
  go_enter Try.func24, Try.ntmps24
  go_wp2_with fail
  refine (indexFunc_col _ _ _ _ xs (hx.below below_alloc) name w.heap.size (by simp [go_sem]) (by simp)).mono ?_
  rintro e w1 ⟨rfl, hb1⟩
  have hbb := below_trans below_alloc hb1
  go_wp2
  go_ret
  exact ⟨rfl, hbb⟩

set_option maxRecDepth 100000 in
theorem index_ref (w : World) (A : Option Addr) (n c : Nat) (xs : List Col) (hx : In w A n c xs) (name : ByteArray) :
    Calls Try.prog 31 #[.slice A n c, .string name] w fun e w' => e = .returned (.int .i64 (index xs name)) ∧ w = w' := by
  have h63 := hx.le
  go_enter Try.func31, Try.ntmps31
  go_wp2
  go_loop [5] (fun i => ∃ k : Nat, k ≤ n ∧ i = .int .i64 k ∧ index xs name = indexFrom name k (xs.drop k)) (fun i => n - (intOf i).toNat)
  case atStart => exact ⟨0, Nat.zero_le _, rfl, rfl⟩
  case round =>
    obtain ⟨k, hk, rfl, heq⟩ := hrel
    have HE := hide heq
    clear heq
    by_cases hlt' : k < n
    · obtain ⟨b, off, x, rfl, hB, HX, e0, e1, e2, e3⟩ := hx.col hlt'
      cases hz : (x.name.toList == name.toList)
      · go_wp2
        go_round
        case rel => exact ⟨k + 1, by omega, by go_num, by rw [HE.out, HX.out, indexFrom, if_neg (by simp [hz])]⟩
        case measure => simp [intOf]; omega
      · go_wp2
        go_ret
        exact ⟨ret_int (by rw [HE.out, HX.out, indexFrom, if_pos hz]), rfl⟩
    · go_wp2
      go_ret
      exact ⟨ret_int (by rw [HE.out, drop_end hx.len (by omega), indexFrom]), rfl⟩
end Go.Proofs.Ytmnhahilbbnkkaa
