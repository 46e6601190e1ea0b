/-
  warehousebase: At, Moment, Value, Cell, Row: what they build is well-formed.
-/
import Derived.Test.YtmnhahilbbnkkaaProg
import Derived.Test.YtmnhahilbbnkkaaBits
namespace Go.Proofs.Ytmnhahilbbnkkaa
open Go.RowKit
set_option linter.unusedSimpArgs false
set_option linter.unusedVariables false

theorem and_ex (x : Int) (m : Nat) (hm : m < 9223372036854775808) : ∃ v, bits .and .i64 x (m : Int) = v ∧ 0 ≤ v ∧ v ≤ (m : Int) := ⟨_, rfl, (and_i64_range x m hm).1, (and_i64_range x m hm).2⟩

set_option maxRecDepth 100000 in
theorem at_any (w : World) (A : Option Addr) (n c : Nat) (l : List Int) (hx : In w A n c l) (i : Int) :
    Calls Try.prog 12 #[.slice A n c, .int .i64 i] w fun e w' => (∃ v, e = .returned (.int .i64 v) ∧ 0 ≤ v ∧ v ≤ 131070) ∧ Below w.heap.size w w' := by
  have h63 := hx.le
  obtain ⟨j, hj, hj0, hj1⟩ := and_ex i 65535 (by omega)
  have hj' : bits BinOp.and IntKind.i64 i 65535 = j := hj
  go_enter Try.func12, Try.ntmps12
  by_cases h0 : n = 0
  · subst h0
    go_wp2
    go_ret
    exact ⟨⟨j, rfl, hj0, by omega⟩, Below.refl _ _⟩
  · obtain ⟨r, hr, hrn⟩ : ∃ r : Nat, j.tmod (n : Int) = (r : Int) ∧ r < n := by
      have h1 := Int.emod_lt_of_pos j (show (0 : Int) < n by omega)
      have h2 := Int.emod_nonneg j (show (n : Int) ≠ 0 by omega)
      have h3 : j.tmod (n : Int) = j % (n : Int) := Int.tmod_eq_emod_of_nonneg hj0
      exact ⟨(j % (n : Int)).toNat, by omega, by omega⟩
    obtain ⟨b, off, x, rfl, hB, HX, e0, e1⟩ := hx.int hrn
    obtain ⟨v, hv, hv0, hv1⟩ := and_ex x 65535 (by omega)
    have hv' : bits BinOp.and IntKind.i64 x 65535 = v := hv
    obtain ⟨q, hq, hq0, hq1⟩ : ∃ q, j.tdiv (n : Int) = q ∧ 0 ≤ q ∧ q ≤ 65535 := by
      refine ⟨_, rfl, ?_, ?_⟩
      · rw [Int.tdiv_eq_ediv_of_nonneg hj0]; exact Int.ediv_nonneg hj0 (by omega)
      · rw [Int.tdiv_eq_ediv_of_nonneg hj0]
        exact Int.le_trans (Int.ediv_le_self _ hj0) hj1
    have hq2 : IntKind.i64.wrap q = q := IntWalk.i64_in _ (by omega)
    have hs : IntKind.i64.wrap (v + q) = v + q := IntWalk.i64_in _ (by omega)
    have hz : ((n : Int) == 0) = false := by simp; omega
    have hn : (0 : Int) < (n : Int) := by omega
    have hr0 : (0 : Int) ≤ (r : Int) := by omega
    have hr1 : (r : Int) < (n : Int) := by omega
    clear hj hv
    go_wp2
    go_quiet (fail)
    go_wp2
    go_ret
    exact ⟨⟨v + q, rfl, by omega, by omega⟩, below_drewN (Below.refl _ _) _⟩

set_option maxRecDepth 100000 in
theorem moment_any (w : World) (i : Int) :
    Calls Try.prog 52 #[.int .i64 i] w fun e w' => (∃ v, e = .returned (.int .i64 v) ∧ 0 ≤ v ∧ v ≤ 575999999) ∧ Below w.heap.size w w' := by
  obtain ⟨j, hj, hj0, hj1⟩ := and_ex i 65535 (by omega)
  have hj' : bits BinOp.and IntKind.i64 i 65535 = j := hj
  clear hj
  obtain ⟨a, ha, ha0, ha1⟩ := and_ex (j / 256) 15 (by omega)
  have ha' : bits BinOp.and IntKind.i64 (j / 256) 15 = a := ha
  obtain ⟨b, hb, hb0, hb1⟩ := and_ex (j / 8) 3 (by omega)
  have hb' : bits BinOp.and IntKind.i64 (j / 8) 3 = b := hb
  obtain ⟨d, hd, hd0, hd1⟩ := and_ex (j / 32) 1 (by omega)
  have hd' : bits BinOp.and IntKind.i64 (j / 32) 1 = d := hd
  clear ha hb hd
  cases hz : (a == 0)
  · go_enter Try.func52, Try.ntmps52
    go_wp2
    all_goals (try (exfalso; go_light; simp_all; done))
    go_ret
    refine ⟨⟨_, rfl, ?_, ?_⟩, Below.refl _ _⟩
    all_goals (go_light; omega)
  · obtain h6 | h6 | h6 | h6 | h6 | h6 : j % 6 = 0 ∨ j % 6 = 1 ∨ j % 6 = 2 ∨ j % 6 = 3 ∨ j % 6 = 4 ∨ j % 6 = 5 := by omega
    all_goals
      go_enter Try.func52, Try.ntmps52
      go_wp2
      all_goals (try (exfalso; go_light; simp_all; done))
      go_ret
      exact ⟨⟨_, rfl, by omega, by omega⟩, below_alloc⟩

/-- What Value builds. -/
def Made (kind : Int) (v : Val) : Prop := valid v = true ∧ v.ok ∧ (1 ≤ kind → kind ≤ 4 → v.kind = kind) ∧ (kind < 1 ∨ 4 < kind → v.kind = 0)
theorem noStr_empty : noStr ⟨#[]⟩ = true := by rw [noStr, ByteArray.toList_eq]; rfl
theorem made_bool {d : Int} (h0 : 0 ≤ d) (h1 : d ≤ 1) : Made 1 ⟨1, d, ⟨#[]⟩⟩ := by
  refine ⟨?_, ⟨⟨by simp only; omega, by simp only; omega⟩, ⟨by simp only; omega, by simp only; omega⟩, by simp [Str, ByteArray.size]⟩, fun _ _ => rfl, fun h => by omega⟩
  obtain rfl | rfl : d = 0 ∨ d = 1 := by omega
  all_goals simp [valid, noStr_empty]
theorem made_int {d : Int} (h0 : -1073741824 ≤ d) (h1 : d ≤ 1073741824) : Made 2 ⟨2, d, ⟨#[]⟩⟩ := by
  refine ⟨?_, ⟨⟨by simp only; omega, by simp only; omega⟩, ⟨by simp only; omega, by simp only; omega⟩, by simp [Str, ByteArray.size]⟩, fun _ _ => rfl, fun h => by omega⟩
  simp [valid, noStr_empty, h0, h1]
theorem made_text {s : ByteArray} (h : s.size ≤ 64) : Made 3 ⟨3, 0, s⟩ := by
  refine ⟨?_, ⟨⟨by simp only; omega, by simp only; omega⟩, ⟨by simp only; omega, by simp only; omega⟩, by unfold Str; simp only; omega⟩, fun _ _ => rfl, fun h => by omega⟩
  simp [valid, h]
theorem made_time {d : Int} (h0 : 0 ≤ d) (h1 : d ≤ 575999999) : Made 4 ⟨4, d, ⟨#[]⟩⟩ := by
  refine ⟨?_, ⟨⟨by simp only; omega, by simp only; omega⟩, ⟨by simp only; omega, by simp only; omega⟩, by simp [Str, ByteArray.size]⟩, fun _ _ => rfl, fun h => by omega⟩
  simp [valid, noStr_empty, h0, h1]
theorem made_null {k : Int} (h : k < 1 ∨ 4 < k) : Made k ⟨0, 0, ⟨#[]⟩⟩ := by
  refine ⟨?_, ⟨⟨by simp only; omega, by simp only; omega⟩, ⟨by simp only; omega, by simp only; omega⟩, by simp [Str, ByteArray.size]⟩, fun _ _ => by omega, fun _ => rfl⟩
  simp [valid, noStr_empty]
set_option maxRecDepth 100000 in
theorem value_bool (w : World) (i : Int) :
    Calls Try.prog 46 #[.int .i64 1, .int .i64 i] w fun e w' => (∃ v, e = .returned (.agg v.cells.toArray) ∧ Made 1 v) ∧ Below w.heap.size w w' := by
  obtain ⟨j, hj, hj0, hj1⟩ := and_ex i 65535 (by omega)
  have hj' : bits BinOp.and IntKind.i64 i 65535 = j := hj
  clear hj
  obtain ⟨d, hd, hd0, hd1⟩ := and_ex j 1 (by omega)
  have hd' : bits BinOp.and IntKind.i64 j 1 = d := hd
  clear hd
  go_enter Try.func46, Try.ntmps46
  go_wp2
  refine bodyPost_ret (v := .agg (Val.cells ⟨1, d, ⟨#[]⟩⟩).toArray) (by simp [results, Try.results46, go_sem, Val.cells]) rfl ⟨⟨_, rfl, ?_⟩, (by exact (Below.refl _ _).alloc (Nat.le_refl _) _)⟩
  exact made_bool hd0 hd1
set_option maxRecDepth 100000 in
theorem value_int (w : World) (i : Int) :
    Calls Try.prog 46 #[.int .i64 2, .int .i64 i] w fun e w' => (∃ v, e = .returned (.agg v.cells.toArray) ∧ Made 2 v) ∧ Below w.heap.size w w' := by
  obtain ⟨j, hj, hj0, hj1⟩ := and_ex i 65535 (by omega)
  have hj' : bits BinOp.and IntKind.i64 i 65535 = j := hj
  clear hj
  obtain ⟨a, ha, ha0, ha1⟩ := and_ex (j / 256) 31 (by omega)
  have ha' : bits BinOp.and IntKind.i64 (j / 256) 31 = a := ha
  obtain ⟨b, hb, hb0, hb1⟩ := and_ex j 1 (by omega)
  have hb' : bits BinOp.and IntKind.i64 j 1 = b := hb
  obtain ⟨d, hd, hd0, hd1⟩ := and_ex j 3 (by omega)
  have hd' : bits BinOp.and IntKind.i64 j 3 = d := hd
  clear ha hb hd
  cases hz : (a == 0)
  · cases hz1 : (a == 1)
    · go_enter Try.func46, Try.ntmps46
      go_wp2
      all_goals (try (exfalso; go_light; simp_all; done))
      refine bodyPost_ret (v := .agg (Val.cells ⟨2, (j % 7 - 2), ⟨#[]⟩⟩).toArray) (by simp [results, Try.results46, go_sem, Val.cells]) rfl ⟨⟨_, rfl, ?_⟩, (by exact (Below.refl _ _).alloc (Nat.le_refl _) _)⟩
      exact made_int (by omega) (by omega)
    · go_enter Try.func46, Try.ntmps46
      go_wp2
      all_goals (try (exfalso; go_light; simp_all; done))
      refine bodyPost_ret (v := .agg (Val.cells ⟨2, (d - 1073741824), ⟨#[]⟩⟩).toArray) (by simp [results, Try.results46, go_sem, Val.cells]) rfl ⟨⟨_, rfl, ?_⟩, (by exact (Below.refl _ _).alloc (Nat.le_refl _) _)⟩
      exact made_int (by omega) (by omega)
  · go_enter Try.func46, Try.ntmps46
    go_wp2
    all_goals (try (exfalso; go_light; simp_all; done))
    refine bodyPost_ret (v := .agg (Val.cells ⟨2, (1073741824 - b), ⟨#[]⟩⟩).toArray) (by simp [results, Try.results46, go_sem, Val.cells]) rfl ⟨⟨_, rfl, ?_⟩, (by exact (Below.refl _ _).alloc (Nat.le_refl _) _)⟩
    exact made_int (by omega) (by omega)
set_option maxHeartbeats 1000000 in
set_option maxRecDepth 100000 in
theorem value_text (w : World) (i : Int) :
    Calls Try.prog 46 #[.int .i64 3, .int .i64 i] w fun e w' => (∃ v, e = .returned (.agg v.cells.toArray) ∧ Made 3 v) ∧ Below w.heap.size w w' := by
  obtain ⟨j, hj, hj0, hj1⟩ := and_ex i 65535 (by omega)
  have hj' : bits BinOp.and IntKind.i64 i 65535 = j := hj
  clear hj
  obtain h6 | h6 | h6 | h6 | h6 | h6 : j % 6 = 0 ∨ j % 6 = 1 ∨ j % 6 = 2 ∨ j % 6 = 3 ∨ j % 6 = 4 ∨ j % 6 = 5 := by omega
  · go_enter Try.func46, Try.ntmps46
    go_wp2
    refine bodyPost_ret (v := .agg (Val.cells ⟨3, 0, ⟨#[97]⟩⟩).toArray) (by simp [results, Try.results46, go_sem, Val.cells]) rfl ⟨⟨_, rfl, ?_⟩, (by exact below_alloc2)⟩
    exact made_text (by simp [ByteArray.size])
  · go_enter Try.func46, Try.ntmps46
    go_wp2
    refine bodyPost_ret (v := .agg (Val.cells ⟨3, 0, ⟨#[98]⟩⟩).toArray) (by simp [results, Try.results46, go_sem, Val.cells]) rfl ⟨⟨_, rfl, ?_⟩, (by exact below_alloc2)⟩
    exact made_text (by simp [ByteArray.size])
  · go_enter Try.func46, Try.ntmps46
    go_wp2
    refine bodyPost_ret (v := .agg (Val.cells ⟨3, 0, ⟨#[99]⟩⟩).toArray) (by simp [results, Try.results46, go_sem, Val.cells]) rfl ⟨⟨_, rfl, ?_⟩, (by exact below_alloc2)⟩
    exact made_text (by simp [ByteArray.size])
  · go_enter Try.func46, Try.ntmps46
    go_wp2
    refine bodyPost_ret (v := .agg (Val.cells ⟨3, 0, ⟨#[]⟩⟩).toArray) (by simp [results, Try.results46, go_sem, Val.cells]) rfl ⟨⟨_, rfl, ?_⟩, (by exact below_alloc2)⟩
    exact made_text (by simp [ByteArray.size])
  · go_enter Try.func46, Try.ntmps46
    go_wp2
    refine bodyPost_ret (v := .agg (Val.cells ⟨3, 0, ⟨#[105, 116, 39, 115]⟩⟩).toArray) (by simp [results, Try.results46, go_sem, Val.cells]) rfl ⟨⟨_, rfl, ?_⟩, (by exact below_alloc2)⟩
    exact made_text (by simp [ByteArray.size])
  · go_enter Try.func46, Try.ntmps46
    go_wp2
    refine bodyPost_ret (v := .agg (Val.cells ⟨3, 0, ⟨#[97, 32, 98]⟩⟩).toArray) (by simp [results, Try.results46, go_sem, Val.cells]) rfl ⟨⟨_, rfl, ?_⟩, (by exact below_alloc2)⟩
    exact made_text (by simp [ByteArray.size])
set_option maxHeartbeats 1000000 in
set_option maxRecDepth 100000 in
theorem value_time (w : World) (i : Int) :
    Calls Try.prog 46 #[.int .i64 4, .int .i64 i] w fun e w' => (∃ v, e = .returned (.agg v.cells.toArray) ∧ Made 4 v) ∧ Below w.heap.size w w' := by
  obtain ⟨j, hj, hj0, hj1⟩ := and_ex i 65535 (by omega)
  have hj' : bits BinOp.and IntKind.i64 i 65535 = j := hj
  clear hj
  go_enter Try.func46, Try.ntmps46
  go_wp2_with fail
  refine (moment_any _ _).mono ?_
  rintro e w1 ⟨⟨t, rfl, ht0, ht1⟩, hb1⟩
  have hbb := below_trans below_alloc hb1
  have g0 : w1.cell? ⟨w.heap.size, 0, none⟩ = some (.int .i64 0) := bat hb1 (by simp) (by simp [go_sem])
  have g1 : w1.cell? ⟨w.heap.size, 1, none⟩ = some (.int .i64 0) := bat hb1 (by simp) (by simp [go_sem])
  have g2 : w1.cell? ⟨w.heap.size, 2, none⟩ = some (.string ⟨#[]⟩) := bat hb1 (by simp) (by simp [go_sem])
  have f0 : w1.frozen? ⟨w.heap.size, 0, none⟩ = false := ((bcell hb1).2 _ _ (by simp)).trans (by simp [go_sem])
  have f1 : w1.frozen? ⟨w.heap.size, 1, none⟩ = false := ((bcell hb1).2 _ _ (by simp)).trans (by simp [go_sem])
  have f2 : w1.frozen? ⟨w.heap.size, 2, none⟩ = false := ((bcell hb1).2 _ _ (by simp)).trans (by simp [go_sem])
  have hs1 : w.heap.size < w1.heap.size := by have := hb1.size; simp at this; omega
  clear hb1
  go_wp2
  refine bodyPost_ret (v := .agg (Val.cells ⟨4, t, ⟨#[]⟩⟩).toArray) (results_cells (cs := Val.cells ⟨4, t, ⟨#[]⟩⟩) rfl _ _ w.heap.size _ rfl (set_three g0 g1 g2) Try.underlying42 rfl (by kernel_rfl)) rfl ⟨⟨_, rfl, made_time ht0 ht1⟩, ((hbb.setCell (Nat.le_refl _) _).setCell (Nat.le_refl _) _).setCell (Nat.le_refl _) _⟩
set_option maxHeartbeats 1000000 in
set_option maxRecDepth 100000 in
theorem value_null (w : World) (kind i : Int) (hk : kind < 1 ∨ 4 < kind) :
    Calls Try.prog 46 #[.int .i64 kind, .int .i64 i] w fun e w' => (∃ v, e = .returned (.agg v.cells.toArray) ∧ Made kind v) ∧ Below w.heap.size w w' := by
  obtain ⟨j, hj, hj0, hj1⟩ := and_ex i 65535 (by omega)
  have hj' : bits BinOp.and IntKind.i64 i 65535 = j := hj
  clear hj
  have k1 : (kind == 1) = false := by simp; omega
  have k2 : (kind == 2) = false := by simp; omega
  have k3 : (kind == 3) = false := by simp; omega
  have k4 : (kind == 4) = false := by simp; omega
  go_enter Try.func46, Try.ntmps46
  go_wp2
  refine bodyPost_ret (v := .agg (Val.cells ⟨0, 0, ⟨#[]⟩⟩).toArray) (by simp [results, Try.results46, go_sem, Val.cells]) rfl ⟨⟨_, rfl, ?_⟩, (by exact (Below.refl _ _).alloc (Nat.le_refl _) _)⟩
  exact made_null hk

theorem value_any (w : World) (kind i : Int) :
    Calls Try.prog 46 #[.int .i64 kind, .int .i64 i] w fun e w' => (∃ v, e = .returned (.agg v.cells.toArray) ∧ Made kind v) ∧ Below w.heap.size w w' := by
  obtain rfl | rfl | rfl | rfl | h : kind = 1 ∨ kind = 2 ∨ kind = 3 ∨ kind = 4 ∨ (kind < 1 ∨ 4 < kind) := by omega
  · exact value_bool w i
  · exact value_int w i
  · exact value_text w i
  · exact value_time w i
  · exact value_null w kind i h
end Go.Proofs.Ytmnhahilbbnkkaa
