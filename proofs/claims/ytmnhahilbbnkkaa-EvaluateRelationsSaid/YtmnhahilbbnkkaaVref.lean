/-
  Package warehouseref1: Valid, Compare, CompareRows.
-/
import Derived.Test.YtmnhahilbbnkkaaProg
import Derived.Test.YtmnhahilbbnkkaaKit
namespace Go.Proofs.Ytmnhahilbbnkkaa
set_option linter.unusedVariables false
set_option linter.unusedSimpArgs false
open Go.RowKit

set_option maxHeartbeats 400000 in
theorem valid_ref (v : Val) (hv : v.ok) (w : World) :
    Calls Try.prog 35 #[.agg v.cells.toArray] w fun e w' => e = .returned (.bool (valid v)) ∧ Below w.heap.size w w' := by
  obtain ⟨k, n, s⟩ := v
  simp only [Val.cells, Val.ok, Str, I64] at *
  obtain ⟨⟨h1, h2⟩, ⟨h3, h4⟩, h5⟩ := hv
  go_enter Try.func35, Try.ntmps35
  go_wp2
  all_goals
    go_ret
    refine ⟨ret_bool ?_, below_alloc⟩
    go_light
    simp only [beq_iff_eq, beq_eq_false_iff_ne, ne_eq] at *
    try subst k
    simp_all [valid, noStr]
  all_goals (try omega)
  all_goals (try (repeat' split <;> omega))

theorem numbers_ref (a b : Int) (w : World) : Calls Try.prog 45 #[.int .i64 a, .int .i64 b] w fun e w' => e = .returned (.int .i64 (cmpInt a b)) ∧ w = w' := by
  go_enter Try.func45, Try.ntmps45
  go_wp2
  all_goals (go_ret; refine ⟨ret_int ?_, rfl⟩; go_light; simp only [cmpInt]; (repeat' split) <;> omega)

theorem compare_ref (a b : Val) (w : World) :
    Calls Try.prog 44 #[.agg a.cells.toArray, .agg b.cells.toArray] w fun e w' => e = .returned (.int .i64 (cmpVal a b)) ∧ Below w.heap.size w w' := by
  obtain ⟨k, n, s⟩ := a
  obtain ⟨k', n', s'⟩ := b
  simp only [Val.cells]
  go_enter Try.func44, Try.ntmps44
  go_wp2_with (go_at_call 45; refine (numbers_ref _ _ _).mono ?_; rintro e w' ⟨rfl, rfl⟩)
  all_goals
    go_ret
    refine ⟨ret_int ?_, below_alloc2⟩
    go_light
    (try simp only [bne_iff_ne, ne_eq] at *)
    (first | (simp_all [cmpVal]; done) | (simp_all [cmpVal, cmpStr]; done))

set_option maxRecDepth 100000 in
theorem compareRows_ref (w : World) (A A' : Option Addr) (n n' c c' : Nat) (xs ys : List Val) (hx : In w A n c xs) (hy : In w A' n' c' ys) :
    Calls Try.prog 33 #[.slice A n c, .slice A' n' c'] w fun e w' => e = .returned (.int .i64 (cmpRows xs ys)) ∧ Below w.heap.size w w' := by
  have h63 := hx.le
  have h63' := hy.le
  go_enter Try.func33, Try.ntmps33
  go_wp2
  go_loopw [5] (fun i wr => ∃ k : Nat, k ≤ n ∧ k ≤ n' ∧ i = .int .i64 k ∧ cmpRows xs ys = cmpRows (xs.drop k) (ys.drop k) ∧ Below w.heap.size w wr) (fun i _ => n - (intOf i).toNat)
  case atStart => exact ⟨0, Nat.zero_le _, Nat.zero_le _, rfl, rfl, Below.refl _ _⟩
  case round =>
    obtain ⟨k, hk, hk', rfl, heq, hb⟩ := hrel
    have HE := hide heq
    clear heq
    by_cases hlt : k < n
    · by_cases hlt' : k < n'
      · obtain ⟨b, off, x, rfl, hB, HX, e0, e1, e2, e3⟩ := (hx.below hb).val hlt
        obtain ⟨b', off', y, rfl, hB', HY, f0, f1, f2, f3⟩ := (hy.below hb).val hlt'
        go_wp2_with fail
        go_region_held3 (fun w' => Below wr.heap.size wr w' ∧ w'.cell? ⟨b, off + k * 3, none⟩ = some (.int .i64 x.kind) ∧ w'.cell? ⟨b, off + k * 3 + 1, none⟩ = some (.int .i64 x.num) ∧ w'.cell? ⟨b, off + k * 3 + 2, none⟩ = some (.string x.str) ∧ w'.cell? ⟨b', off' + k * 3, none⟩ = some (.int .i64 y.kind) ∧ w'.cell? ⟨b', off' + k * 3 + 1, none⟩ = some (.int .i64 y.num) ∧ w'.cell? ⟨b', off' + k * 3 + 2, none⟩ = some (.string y.str)) (first | exact ⟨(Below.refl _ _).drew, e0, e1, e2, f0, f1, f2⟩ | (have hq := below_undrew hb1; exact ⟨hq, bat hq hB e0, bat hq hB e1, bat hq hB e2, bat hq hB' f0, bat hq hB' f1, bat hq hB' f2⟩)) (first | (go_at_call 44; refine (compare_ref x y _).mono ?_; rintro e w1 ⟨rfl, hb1⟩))
        have hbb := below_trans hb (below_undrew hb1)
        clear hb1 e0 e1 e2 f0 f1 f2
        by_cases hz : cmpVal x y = 0
        · rw [hz]
          go_wp2
          go_roundw
          case rel => exact ⟨k + 1, by omega, by omega, by go_num, by rw [HE.out, HX.out, HY.out, cmpRows, if_neg (by simp [hz])], hbb⟩
          case measure => simp [intOf]; omega
        · have hz' : (cmpVal x y == 0) = false := by simp [hz]
          go_wp2
          go_ret
          exact ⟨ret_int (by rw [HE.out, HX.out, HY.out, cmpRows, if_pos hz]), hbb⟩
      · go_wp2_with (go_at_call 45; refine (numbers_ref _ _ _).mono ?_; rintro e w' ⟨rfl, rfl⟩)
        go_ret
        refine ⟨ret_int ?_, hb⟩
        have hy0 := drop_end hy.len (show n' ≤ k by omega)
        rw [HE.out, hy0]
        have : xs.drop k ≠ [] := by intro h; have := congrArg List.length h; rw [List.length_drop, hx.len] at this; simp at this; omega
        match h : xs.drop k with
        | [] => exact absurd h this
        | _ :: _ => rw [cmpRows]; simp [cmpInt]; omega
    · have hkn : n ≤ k := by omega
      go_wp2_with (go_at_call 45; refine (numbers_ref _ _ _).mono ?_; rintro e w' ⟨rfl, rfl⟩)
      go_ret
      refine ⟨ret_int ?_, hb⟩
      rw [HE.out, drop_end hx.len hkn]
      by_cases hlt' : n < n'
      · have : ys.drop k ≠ [] := by intro h; have := congrArg List.length h; rw [List.length_drop, hy.len] at this; simp at this; omega
        match h : ys.drop k with
        | [] => exact absurd h this
        | _ :: _ => rw [cmpRows]; simp [cmpInt]; omega
      · rw [drop_end hy.len (by omega), cmpRows]
        have : n = n' := by omega
        simp [cmpInt, this]
end Go.Proofs.Ytmnhahilbbnkkaa
