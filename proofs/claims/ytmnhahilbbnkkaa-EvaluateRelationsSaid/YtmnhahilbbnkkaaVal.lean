/-
  Package value: Valid, Compare, CompareRows; package cmp's Or and Compare.
-/
import Derived.Test.YtmnhahilbbnkkaaProg
import Derived.Test.YtmnhahilbbnkkaaKit
namespace Go.Proofs.Ytmnhahilbbnkkaa
set_option linter.unusedVariables false
set_option linter.unusedSimpArgs false
open Go.RowKit

set_option maxHeartbeats 400000 in
theorem valid_any (v : Val) (hv : v.ok) (w : World) :
    Calls Try.prog 29 #[.agg v.cells.toArray] w fun e w' => e = .returned (.bool (valid v)) ∧ Below w.heap.size w w' := by
  obtain ⟨k, n, s⟩ := v
  simp only [Val.cells, Val.ok, Str, I64] at *
  obtain ⟨⟨h1, h2⟩, ⟨h3, h4⟩, h5⟩ := hv
  go_enter Try.func29, Try.ntmps29
  go_wp2
  all_goals
    go_ret
    refine ⟨ret_bool ?_, below_alloc⟩
    go_light
    simp only [beq_iff_eq, beq_eq_false_iff_ne, ne_eq] at *
    try subst k
    simp_all [valid, noStr]
  all_goals (try omega)
  all_goals (try (repeat' split <;> omega))

theorem isNaN_int (a : Int) (w : World) : Calls Try.prog 54 #[.int .i64 a] w fun e w' => e = .returned (.bool false) ∧ w = w' := by
  go_enter Try.func54, Try.ntmps54
  go_wp2
  all_goals (go_ret; exact ⟨by simp, rfl⟩)
theorem isNaN_str (a : ByteArray) (w : World) : Calls Try.prog 55 #[.string a] w fun e w' => e = .returned (.bool false) ∧ w = w' := by
  go_enter Try.func55, Try.ntmps55
  go_wp2
  all_goals (go_ret; exact ⟨by simp, rfl⟩)
theorem cmp_int (a b : Int) (w : World) : Calls Try.prog 50 #[.int .i64 a, .int .i64 b] w fun e w' => e = .returned (.int .i64 (cmpInt a b)) ∧ w = w' := by
  go_enter Try.func50, Try.ntmps50
  go_wp2_with (go_at_call 54; refine (isNaN_int _ _).mono ?_; rintro e w' ⟨rfl, rfl⟩)
  all_goals (go_ret; refine ⟨ret_int ?_, rfl⟩; go_light; simp only [cmpInt]; (repeat' split) <;> omega)
theorem cmp_str (a b : ByteArray) (w : World) : Calls Try.prog 51 #[.string a, .string b] w fun e w' => e = .returned (.int .i64 (cmpStr a b)) ∧ w = w' := by
  go_enter Try.func51, Try.ntmps51
  go_wp2_with (go_at_call 55; refine (isNaN_str _ _).mono ?_; rintro e w' ⟨rfl, rfl⟩)
  all_goals (go_ret; refine ⟨ret_int ?_, rfl⟩; go_light; simp only [cmpStr]; simp_all)

def or3 (a b c : Int) : Int := if a ≠ 0 then a else if b ≠ 0 then b else c
theorem cmpVal_or (a b : Val) : or3 (cmpInt a.kind b.kind) (cmpInt a.num b.num) (cmpStr a.str b.str) = cmpVal a b := rfl
theorem or_three (a b c : Int) (w : World) (g : Nat) (h0 : w.cell? ⟨g, 0, none⟩ = some (.int .i64 a)) (h1 : w.cell? ⟨g, 1, none⟩ = some (.int .i64 b)) (h2 : w.cell? ⟨g, 2, none⟩ = some (.int .i64 c)) :
    Calls Try.prog 49 #[.slice (some ⟨g, 0, none⟩) 3 3] w fun e w' => e = .returned (.int .i64 (or3 a b c)) ∧ w = w' := by
  go_enter Try.func49, Try.ntmps49
  go_wp2
  go_loop [5, 8] (fun _ i => ∃ k : Nat, k ≤ 3 ∧ i = .int .i64 k ∧ (1 ≤ k → a = 0) ∧ (2 ≤ k → b = 0) ∧ (3 ≤ k → c = 0)) (fun _ i => 3 - (intOf i).toNat)
  case atStart => exact ⟨0, by omega, rfl, by omega, by omega, by omega⟩
  case round =>
    obtain ⟨k, hk, rfl, ha, hb, hc⟩ := hrel
    obtain rfl | rfl | rfl | rfl : k = 0 ∨ k = 1 ∨ k = 2 ∨ k = 3 := by omega
    · clear ha hb hc
      go_wp2
      · go_ret
        exact ⟨ret_int (by go_light; simp_all [or3]), rfl⟩
      · go_round
        case rel => exact ⟨1, by omega, by go_num, (by intro _; go_light; simp_all), by omega, by omega⟩
        case measure => simp [intOf]
    · have ha := ha (by omega)
      subst ha
      clear hb hc
      go_wp2
      · go_ret
        exact ⟨ret_int (by go_light; simp_all [or3]), rfl⟩
      · go_round
        case rel => exact ⟨2, by omega, by go_num, (by first | trivial | (intro _; rfl)), (by intro _; go_light; simp_all), by omega⟩
        case measure => simp [intOf]
    · have ha := ha (by omega)
      have hb := hb (by omega)
      subst ha hb
      clear hc
      go_wp2
      · go_ret
        exact ⟨ret_int (by go_light; simp_all [or3]), rfl⟩
      · go_round
        case rel => exact ⟨3, by omega, by go_num, (by first | trivial | (intro _; rfl)), (by first | trivial | (intro _; rfl)), (by intro _; go_light; simp_all)⟩
        case measure => simp [intOf]
    · have ha := ha (by omega)
      have hb := hb (by omega)
      have hc := hc (by omega)
      subst ha hb hc
      go_wp2
      go_ret
      exact ⟨ret_int (by simp [or3]), rfl⟩

set_option maxRecDepth 100000 in
theorem cmp_val (a b : Val) (w : World) :
    Calls Try.prog 41 #[.agg a.cells.toArray, .agg b.cells.toArray] w fun e w' => e = .returned (.int .i64 (cmpVal a b)) ∧ Below w.heap.size w w' := by
  obtain ⟨k, n, s⟩ := a
  obtain ⟨k', n', s'⟩ := b
  simp only [Val.cells]
  go_enter Try.func41, Try.ntmps41
  go_wp2_with fail
  generalize hW : ((w.alloc _).alloc _) = W
  have c0 : W.cell? ⟨w.heap.size, 0, none⟩ = some (.int .i64 k) := by subst hW; simp [World.cell?_alloc_lt, go_sem]
  have c1 : W.cell? ⟨w.heap.size, 1, none⟩ = some (.int .i64 n) := by subst hW; simp [World.cell?_alloc_lt, go_sem]
  have c2 : W.cell? ⟨w.heap.size, 2, none⟩ = some (.string s) := by subst hW; simp [World.cell?_alloc_lt, go_sem]
  have d0 : W.cell? ⟨w.heap.size + 1, 0, none⟩ = some (.int .i64 k') := by subst hW; simp [go_sem]
  have d1 : W.cell? ⟨w.heap.size + 1, 1, none⟩ = some (.int .i64 n') := by subst hW; simp [go_sem]
  have d2 : W.cell? ⟨w.heap.size + 1, 2, none⟩ = some (.string s') := by subst hW; simp [go_sem]
  have hb : Below w.heap.size w W := by subst hW; exact below_alloc2
  clear hW
  go_region_held3 (fun w' => w'.cell? ⟨w.heap.size, 0, none⟩ = some (.int .i64 k) ∧ w'.cell? ⟨w.heap.size, 1, none⟩ = some (.int .i64 n) ∧ w'.cell? ⟨w.heap.size, 2, none⟩ = some (.string s)
     ∧ w'.cell? ⟨w.heap.size + 1, 0, none⟩ = some (.int .i64 k') ∧ w'.cell? ⟨w.heap.size + 1, 1, none⟩ = some (.int .i64 n') ∧ w'.cell? ⟨w.heap.size + 1, 2, none⟩ = some (.string s')) (go_keep)
    (first | (go_at_call 50; refine (cmp_int _ _ _).mono ?_; rintro e w' ⟨rfl, rfl⟩) | (go_at_call 51; refine (cmp_str _ _ _).mono ?_; rintro e w' ⟨rfl, rfl⟩) | (go_at_call 49; refine (or_three (cmpInt k k') (cmpInt n n') (cmpStr s s') _ _ ?_ ?_ ?_).mono ?_; (simp [go_sem]); (simp [go_sem]); (simp [go_sem]); rintro e w' ⟨rfl, rfl⟩))
  go_wp2
  go_ret
  exact ⟨rfl, (hb.alloc hb.size _).drew⟩
end Go.Proofs.Ytmnhahilbbnkkaa
