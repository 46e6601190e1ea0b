/-
  warehouseref9.binary: it returns binKd. (Printed by gen_ref9.py.)
-/
import Derived.Test.YtodapiholjeehaaGreatDoorTypC
namespace Go.Proofs.YtodapiholjeehaaGreatDoor
open Go.RowKit
set_option linter.unusedSimpArgs false
set_option linter.unusedVariables false
set_option maxHeartbeats 4000000 in
set_option maxRecDepth 100000 in
theorem binary_4t (yk : Int) (xn yn : Bool) (w : World) :
    Calls Tryz.prog 182 #[.int .i64 4, .agg #[.int .i64 4, .bool xn], .agg #[.int .i64 yk, .bool yn]] w fun e w' => e = .returned (.tuple #[.agg (binKd 4 ⟨4, xn⟩ ⟨yk, yn⟩).1.cells.toArray, .bool (binKd 4 ⟨4, xn⟩ ⟨yk, yn⟩).2]) ∧ Below w.heap.size w w' := by
  have hx2 := Below.refl (((w.alloc (.cells #[.int .i64 4, .bool xn] 167)).alloc (.cells #[.int .i64 yk, .bool yn] 167)).alloc (.cells #[.int .i64 0, .bool false] 167)).heap.size (((w.alloc (.cells #[.int .i64 4, .bool xn] 167)).alloc (.cells #[.int .i64 yk, .bool yn] 167)).alloc (.cells #[.int .i64 0, .bool false] 167))
  obtain ⟨R, hR⟩ : ∃ R : Value, R = .tuple #[.agg (binKd 4 ⟨4, xn⟩ ⟨yk, yn⟩).1.cells.toArray, .bool (binKd 4 ⟨4, xn⟩ ⟨yk, yn⟩).2] := ⟨_, rfl⟩
  rw [← hR]
  have HR := hide hR
  clear hR
  cases xn <;> cases yn
  all_goals (
    go_enter Tryz.func182, Tryz.ntmps182
    go_wp2_with (first | (go_at_call 179; refine (fits_ref _ _ _ _).mono ?_; rintro e w1 ⟨rfl, hb1⟩; have hx2 := below_trans hx2 hb1; have c0 := (bcell hx2).1 w.heap.size 0 (by simp <;> omega); have c1 := (bcell hx2).1 w.heap.size 1 (by simp <;> omega); have e0 := (bcell hx2).1 (w.heap.size + 1) 0 (by simp <;> omega); have e1 := (bcell hx2).1 (w.heap.size + 1) 1 (by simp <;> omega); have d0 := (bcell hx2).1 (w.heap.size + 1 + 1) 0 (by simp <;> omega); have d1 := (bcell hx2).1 (w.heap.size + 1 + 1) 1 (by simp <;> omega); have F0 := (bcell hx2).2 (w.heap.size + 1 + 1) 0 (by simp <;> omega); have F1 := (bcell hx2).2 (w.heap.size + 1 + 1) 1 (by simp <;> omega); simp [go_sem] at c0 c1 e0 e1 d0 d1 F0 F1; have HB : Hid (Below w.heap.size w w1) := hide (below_trans (below_trans below_alloc2 below_alloc) hx2); have HS := hide (made_pair d0 d1); clear hb1) | (go_at_call 178; refine (common_ref _ _ _ _ _).mono ?_; rintro e w1 ⟨rfl, hb1⟩; have hx2 := below_trans hx2 hb1; have c0 := (bcell hx2).1 w.heap.size 0 (by simp <;> omega); have c1 := (bcell hx2).1 w.heap.size 1 (by simp <;> omega); have e0 := (bcell hx2).1 (w.heap.size + 1) 0 (by simp <;> omega); have e1 := (bcell hx2).1 (w.heap.size + 1) 1 (by simp <;> omega); have d0 := (bcell hx2).1 (w.heap.size + 1 + 1) 0 (by simp <;> omega); have d1 := (bcell hx2).1 (w.heap.size + 1 + 1) 1 (by simp <;> omega); have F0 := (bcell hx2).2 (w.heap.size + 1 + 1) 0 (by simp <;> omega); have F1 := (bcell hx2).2 (w.heap.size + 1 + 1) 1 (by simp <;> omega); simp [go_sem] at c0 c1 e0 e1 d0 d1 F0 F1; have HB : Hid (Below w.heap.size w w1) := hide (below_trans (below_trans below_alloc2 below_alloc) hx2); have HS := hide (made_pair d0 d1); clear hb1))
    all_goals (
      refine bodyPost_ret (v := R) ?_ rfl ⟨rfl, by first | exact (HB.out.setCell (by simp <;> omega) _).setCell (by simp <;> omega) _ | exact below_trans below_alloc2 below_alloc⟩
      rw [HR.out]
      first | (obtain ⟨S0, S1⟩ := HS.out; simp [results, Tryz.results182, go_sem, S0, S1]) | simp [results, Tryz.results182, go_sem]
      all_goals (first | (simp [binKd, Kd.cells]; done) | (simp [binKd, Kd.cells]; intros; first | assumption | contradiction | simp_all))))
set_option maxHeartbeats 4000000 in
set_option maxRecDepth 100000 in
theorem binary_4n (xk yk : Int) (xn yn : Bool) (w : World) (q1 : (xk == 4) = false) (q2 : ¬ xk = 4) :
    Calls Tryz.prog 182 #[.int .i64 4, .agg #[.int .i64 xk, .bool xn], .agg #[.int .i64 yk, .bool yn]] w fun e w' => e = .returned (.tuple #[.agg (binKd 4 ⟨xk, xn⟩ ⟨yk, yn⟩).1.cells.toArray, .bool (binKd 4 ⟨xk, xn⟩ ⟨yk, yn⟩).2]) ∧ Below w.heap.size w w' := by
  have hx2 := Below.refl (((w.alloc (.cells #[.int .i64 xk, .bool xn] 167)).alloc (.cells #[.int .i64 yk, .bool yn] 167)).alloc (.cells #[.int .i64 0, .bool false] 167)).heap.size (((w.alloc (.cells #[.int .i64 xk, .bool xn] 167)).alloc (.cells #[.int .i64 yk, .bool yn] 167)).alloc (.cells #[.int .i64 0, .bool false] 167))
  obtain ⟨R, hR⟩ : ∃ R : Value, R = .tuple #[.agg (binKd 4 ⟨xk, xn⟩ ⟨yk, yn⟩).1.cells.toArray, .bool (binKd 4 ⟨xk, xn⟩ ⟨yk, yn⟩).2] := ⟨_, rfl⟩
  rw [← hR]
  have HR := hide hR
  clear hR
  cases xn <;> cases yn
  all_goals (
    go_enter Tryz.func182, Tryz.ntmps182
    go_wp2_with (first | (go_at_call 179; refine (fits_ref _ _ _ _).mono ?_; rintro e w1 ⟨rfl, hb1⟩; have hx2 := below_trans hx2 hb1; have c0 := (bcell hx2).1 w.heap.size 0 (by simp <;> omega); have c1 := (bcell hx2).1 w.heap.size 1 (by simp <;> omega); have e0 := (bcell hx2).1 (w.heap.size + 1) 0 (by simp <;> omega); have e1 := (bcell hx2).1 (w.heap.size + 1) 1 (by simp <;> omega); have d0 := (bcell hx2).1 (w.heap.size + 1 + 1) 0 (by simp <;> omega); have d1 := (bcell hx2).1 (w.heap.size + 1 + 1) 1 (by simp <;> omega); have F0 := (bcell hx2).2 (w.heap.size + 1 + 1) 0 (by simp <;> omega); have F1 := (bcell hx2).2 (w.heap.size + 1 + 1) 1 (by simp <;> omega); simp [go_sem] at c0 c1 e0 e1 d0 d1 F0 F1; have HB : Hid (Below w.heap.size w w1) := hide (below_trans (below_trans below_alloc2 below_alloc) hx2); have HS := hide (made_pair d0 d1); clear hb1) | (go_at_call 178; refine (common_ref _ _ _ _ _).mono ?_; rintro e w1 ⟨rfl, hb1⟩; have hx2 := below_trans hx2 hb1; have c0 := (bcell hx2).1 w.heap.size 0 (by simp <;> omega); have c1 := (bcell hx2).1 w.heap.size 1 (by simp <;> omega); have e0 := (bcell hx2).1 (w.heap.size + 1) 0 (by simp <;> omega); have e1 := (bcell hx2).1 (w.heap.size + 1) 1 (by simp <;> omega); have d0 := (bcell hx2).1 (w.heap.size + 1 + 1) 0 (by simp <;> omega); have d1 := (bcell hx2).1 (w.heap.size + 1 + 1) 1 (by simp <;> omega); have F0 := (bcell hx2).2 (w.heap.size + 1 + 1) 0 (by simp <;> omega); have F1 := (bcell hx2).2 (w.heap.size + 1 + 1) 1 (by simp <;> omega); simp [go_sem] at c0 c1 e0 e1 d0 d1 F0 F1; have HB : Hid (Below w.heap.size w w1) := hide (below_trans (below_trans below_alloc2 below_alloc) hx2); have HS := hide (made_pair d0 d1); clear hb1))
    all_goals (
      refine bodyPost_ret (v := R) ?_ rfl ⟨rfl, by first | exact (HB.out.setCell (by simp <;> omega) _).setCell (by simp <;> omega) _ | exact below_trans below_alloc2 below_alloc⟩
      rw [HR.out]
      first | (obtain ⟨S0, S1⟩ := HS.out; simp [results, Tryz.results182, go_sem, S0, S1]) | simp [results, Tryz.results182, go_sem]
      all_goals (first | (simp [binKd, Kd.cells, q2]; done) | (simp [binKd, Kd.cells, q2]; intros; first | assumption | contradiction | simp_all))))
set_option maxHeartbeats 4000000 in
set_option maxRecDepth 100000 in
theorem binary_6 (xk yk : Int) (xn yn : Bool) (w : World) :
    Calls Tryz.prog 182 #[.int .i64 6, .agg #[.int .i64 xk, .bool xn], .agg #[.int .i64 yk, .bool yn]] w fun e w' => e = .returned (.tuple #[.agg (binKd 6 ⟨xk, xn⟩ ⟨yk, yn⟩).1.cells.toArray, .bool (binKd 6 ⟨xk, xn⟩ ⟨yk, yn⟩).2]) ∧ Below w.heap.size w w' := by
  have hx2 := Below.refl (((w.alloc (.cells #[.int .i64 xk, .bool xn] 167)).alloc (.cells #[.int .i64 yk, .bool yn] 167)).alloc (.cells #[.int .i64 0, .bool false] 167)).heap.size (((w.alloc (.cells #[.int .i64 xk, .bool xn] 167)).alloc (.cells #[.int .i64 yk, .bool yn] 167)).alloc (.cells #[.int .i64 0, .bool false] 167))
  obtain ⟨R, hR⟩ : ∃ R : Value, R = .tuple #[.agg (binKd 6 ⟨xk, xn⟩ ⟨yk, yn⟩).1.cells.toArray, .bool (binKd 6 ⟨xk, xn⟩ ⟨yk, yn⟩).2] := ⟨_, rfl⟩
  rw [← hR]
  have HR := hide hR
  clear hR
  cases xn <;> cases yn
  all_goals (
    go_enter Tryz.func182, Tryz.ntmps182
    go_wp2_with (first | (go_at_call 179; refine (fits_ref _ _ _ _).mono ?_; rintro e w1 ⟨rfl, hb1⟩; have hx2 := below_trans hx2 hb1; have c0 := (bcell hx2).1 w.heap.size 0 (by simp <;> omega); have c1 := (bcell hx2).1 w.heap.size 1 (by simp <;> omega); have e0 := (bcell hx2).1 (w.heap.size + 1) 0 (by simp <;> omega); have e1 := (bcell hx2).1 (w.heap.size + 1) 1 (by simp <;> omega); have d0 := (bcell hx2).1 (w.heap.size + 1 + 1) 0 (by simp <;> omega); have d1 := (bcell hx2).1 (w.heap.size + 1 + 1) 1 (by simp <;> omega); have F0 := (bcell hx2).2 (w.heap.size + 1 + 1) 0 (by simp <;> omega); have F1 := (bcell hx2).2 (w.heap.size + 1 + 1) 1 (by simp <;> omega); simp [go_sem] at c0 c1 e0 e1 d0 d1 F0 F1; have HB : Hid (Below w.heap.size w w1) := hide (below_trans (below_trans below_alloc2 below_alloc) hx2); have HS := hide (made_pair d0 d1); clear hb1) | (go_at_call 178; refine (common_ref _ _ _ _ _).mono ?_; rintro e w1 ⟨rfl, hb1⟩; have hx2 := below_trans hx2 hb1; have c0 := (bcell hx2).1 w.heap.size 0 (by simp <;> omega); have c1 := (bcell hx2).1 w.heap.size 1 (by simp <;> omega); have e0 := (bcell hx2).1 (w.heap.size + 1) 0 (by simp <;> omega); have e1 := (bcell hx2).1 (w.heap.size + 1) 1 (by simp <;> omega); have d0 := (bcell hx2).1 (w.heap.size + 1 + 1) 0 (by simp <;> omega); have d1 := (bcell hx2).1 (w.heap.size + 1 + 1) 1 (by simp <;> omega); have F0 := (bcell hx2).2 (w.heap.size + 1 + 1) 0 (by simp <;> omega); have F1 := (bcell hx2).2 (w.heap.size + 1 + 1) 1 (by simp <;> omega); simp [go_sem] at c0 c1 e0 e1 d0 d1 F0 F1; have HB : Hid (Below w.heap.size w w1) := hide (below_trans (below_trans below_alloc2 below_alloc) hx2); have HS := hide (made_pair d0 d1); clear hb1))
    all_goals (
      refine bodyPost_ret (v := R) ?_ rfl ⟨rfl, by first | exact (HB.out.setCell (by simp <;> omega) _).setCell (by simp <;> omega) _ | exact below_trans below_alloc2 below_alloc⟩
      rw [HR.out]
      first | (obtain ⟨S0, S1⟩ := HS.out; simp [results, Tryz.results182, go_sem, S0, S1]) | simp [results, Tryz.results182, go_sem]
      all_goals (first | (simp [binKd, Kd.cells]; done) | (simp [binKd, Kd.cells]; intros; first | assumption | contradiction | simp_all))))
set_option maxHeartbeats 4000000 in
set_option maxRecDepth 100000 in
theorem binary_7 (xk yk : Int) (xn yn : Bool) (w : World) :
    Calls Tryz.prog 182 #[.int .i64 7, .agg #[.int .i64 xk, .bool xn], .agg #[.int .i64 yk, .bool yn]] w fun e w' => e = .returned (.tuple #[.agg (binKd 7 ⟨xk, xn⟩ ⟨yk, yn⟩).1.cells.toArray, .bool (binKd 7 ⟨xk, xn⟩ ⟨yk, yn⟩).2]) ∧ Below w.heap.size w w' := by
  have hx2 := Below.refl (((w.alloc (.cells #[.int .i64 xk, .bool xn] 167)).alloc (.cells #[.int .i64 yk, .bool yn] 167)).alloc (.cells #[.int .i64 0, .bool false] 167)).heap.size (((w.alloc (.cells #[.int .i64 xk, .bool xn] 167)).alloc (.cells #[.int .i64 yk, .bool yn] 167)).alloc (.cells #[.int .i64 0, .bool false] 167))
  obtain ⟨R, hR⟩ : ∃ R : Value, R = .tuple #[.agg (binKd 7 ⟨xk, xn⟩ ⟨yk, yn⟩).1.cells.toArray, .bool (binKd 7 ⟨xk, xn⟩ ⟨yk, yn⟩).2] := ⟨_, rfl⟩
  rw [← hR]
  have HR := hide hR
  clear hR
  cases xn <;> cases yn
  all_goals (
    go_enter Tryz.func182, Tryz.ntmps182
    go_wp2_with (first | (go_at_call 179; refine (fits_ref _ _ _ _).mono ?_; rintro e w1 ⟨rfl, hb1⟩; have hx2 := below_trans hx2 hb1; have c0 := (bcell hx2).1 w.heap.size 0 (by simp <;> omega); have c1 := (bcell hx2).1 w.heap.size 1 (by simp <;> omega); have e0 := (bcell hx2).1 (w.heap.size + 1) 0 (by simp <;> omega); have e1 := (bcell hx2).1 (w.heap.size + 1) 1 (by simp <;> omega); have d0 := (bcell hx2).1 (w.heap.size + 1 + 1) 0 (by simp <;> omega); have d1 := (bcell hx2).1 (w.heap.size + 1 + 1) 1 (by simp <;> omega); have F0 := (bcell hx2).2 (w.heap.size + 1 + 1) 0 (by simp <;> omega); have F1 := (bcell hx2).2 (w.heap.size + 1 + 1) 1 (by simp <;> omega); simp [go_sem] at c0 c1 e0 e1 d0 d1 F0 F1; have HB : Hid (Below w.heap.size w w1) := hide (below_trans (below_trans below_alloc2 below_alloc) hx2); have HS := hide (made_pair d0 d1); clear hb1) | (go_at_call 178; refine (common_ref _ _ _ _ _).mono ?_; rintro e w1 ⟨rfl, hb1⟩; have hx2 := below_trans hx2 hb1; have c0 := (bcell hx2).1 w.heap.size 0 (by simp <;> omega); have c1 := (bcell hx2).1 w.heap.size 1 (by simp <;> omega); have e0 := (bcell hx2).1 (w.heap.size + 1) 0 (by simp <;> omega); have e1 := (bcell hx2).1 (w.heap.size + 1) 1 (by simp <;> omega); have d0 := (bcell hx2).1 (w.heap.size + 1 + 1) 0 (by simp <;> omega); have d1 := (bcell hx2).1 (w.heap.size + 1 + 1) 1 (by simp <;> omega); have F0 := (bcell hx2).2 (w.heap.size + 1 + 1) 0 (by simp <;> omega); have F1 := (bcell hx2).2 (w.heap.size + 1 + 1) 1 (by simp <;> omega); simp [go_sem] at c0 c1 e0 e1 d0 d1 F0 F1; have HB : Hid (Below w.heap.size w w1) := hide (below_trans (below_trans below_alloc2 below_alloc) hx2); have HS := hide (made_pair d0 d1); clear hb1))
    all_goals (
      refine bodyPost_ret (v := R) ?_ rfl ⟨rfl, by first | exact (HB.out.setCell (by simp <;> omega) _).setCell (by simp <;> omega) _ | exact below_trans below_alloc2 below_alloc⟩
      rw [HR.out]
      first | (obtain ⟨S0, S1⟩ := HS.out; simp [results, Tryz.results182, go_sem, S0, S1]) | simp [results, Tryz.results182, go_sem]
      all_goals (first | (simp [binKd, Kd.cells]; done) | (simp [binKd, Kd.cells]; intros; first | assumption | contradiction | simp_all))))
set_option maxHeartbeats 4000000 in
set_option maxRecDepth 100000 in
theorem binary_8 (xk yk : Int) (xn yn : Bool) (w : World) :
    Calls Tryz.prog 182 #[.int .i64 8, .agg #[.int .i64 xk, .bool xn], .agg #[.int .i64 yk, .bool yn]] w fun e w' => e = .returned (.tuple #[.agg (binKd 8 ⟨xk, xn⟩ ⟨yk, yn⟩).1.cells.toArray, .bool (binKd 8 ⟨xk, xn⟩ ⟨yk, yn⟩).2]) ∧ Below w.heap.size w w' := by
  have hx2 := Below.refl (((w.alloc (.cells #[.int .i64 xk, .bool xn] 167)).alloc (.cells #[.int .i64 yk, .bool yn] 167)).alloc (.cells #[.int .i64 0, .bool false] 167)).heap.size (((w.alloc (.cells #[.int .i64 xk, .bool xn] 167)).alloc (.cells #[.int .i64 yk, .bool yn] 167)).alloc (.cells #[.int .i64 0, .bool false] 167))
  obtain ⟨R, hR⟩ : ∃ R : Value, R = .tuple #[.agg (binKd 8 ⟨xk, xn⟩ ⟨yk, yn⟩).1.cells.toArray, .bool (binKd 8 ⟨xk, xn⟩ ⟨yk, yn⟩).2] := ⟨_, rfl⟩
  rw [← hR]
  have HR := hide hR
  clear hR
  cases xn <;> cases yn
  all_goals (
    go_enter Tryz.func182, Tryz.ntmps182
    go_wp2_with (first | (go_at_call 179; refine (fits_ref _ _ _ _).mono ?_; rintro e w1 ⟨rfl, hb1⟩; have hx2 := below_trans hx2 hb1; have c0 := (bcell hx2).1 w.heap.size 0 (by simp <;> omega); have c1 := (bcell hx2).1 w.heap.size 1 (by simp <;> omega); have e0 := (bcell hx2).1 (w.heap.size + 1) 0 (by simp <;> omega); have e1 := (bcell hx2).1 (w.heap.size + 1) 1 (by simp <;> omega); have d0 := (bcell hx2).1 (w.heap.size + 1 + 1) 0 (by simp <;> omega); have d1 := (bcell hx2).1 (w.heap.size + 1 + 1) 1 (by simp <;> omega); have F0 := (bcell hx2).2 (w.heap.size + 1 + 1) 0 (by simp <;> omega); have F1 := (bcell hx2).2 (w.heap.size + 1 + 1) 1 (by simp <;> omega); simp [go_sem] at c0 c1 e0 e1 d0 d1 F0 F1; have HB : Hid (Below w.heap.size w w1) := hide (below_trans (below_trans below_alloc2 below_alloc) hx2); have HS := hide (made_pair d0 d1); clear hb1) | (go_at_call 178; refine (common_ref _ _ _ _ _).mono ?_; rintro e w1 ⟨rfl, hb1⟩; have hx2 := below_trans hx2 hb1; have c0 := (bcell hx2).1 w.heap.size 0 (by simp <;> omega); have c1 := (bcell hx2).1 w.heap.size 1 (by simp <;> omega); have e0 := (bcell hx2).1 (w.heap.size + 1) 0 (by simp <;> omega); have e1 := (bcell hx2).1 (w.heap.size + 1) 1 (by simp <;> omega); have d0 := (bcell hx2).1 (w.heap.size + 1 + 1) 0 (by simp <;> omega); have d1 := (bcell hx2).1 (w.heap.size + 1 + 1) 1 (by simp <;> omega); have F0 := (bcell hx2).2 (w.heap.size + 1 + 1) 0 (by simp <;> omega); have F1 := (bcell hx2).2 (w.heap.size + 1 + 1) 1 (by simp <;> omega); simp [go_sem] at c0 c1 e0 e1 d0 d1 F0 F1; have HB : Hid (Below w.heap.size w w1) := hide (below_trans (below_trans below_alloc2 below_alloc) hx2); have HS := hide (made_pair d0 d1); clear hb1))
    all_goals (
      refine bodyPost_ret (v := R) ?_ rfl ⟨rfl, by first | exact (HB.out.setCell (by simp <;> omega) _).setCell (by simp <;> omega) _ | exact below_trans below_alloc2 below_alloc⟩
      rw [HR.out]
      first | (obtain ⟨S0, S1⟩ := HS.out; simp [results, Tryz.results182, go_sem, S0, S1]) | simp [results, Tryz.results182, go_sem]
      all_goals (first | (simp [binKd, Kd.cells]; done) | (simp [binKd, Kd.cells]; intros; first | assumption | contradiction | simp_all))))
set_option maxHeartbeats 4000000 in
set_option maxRecDepth 100000 in
theorem binary_9 (xk yk : Int) (xn yn : Bool) (w : World) :
    Calls Tryz.prog 182 #[.int .i64 9, .agg #[.int .i64 xk, .bool xn], .agg #[.int .i64 yk, .bool yn]] w fun e w' => e = .returned (.tuple #[.agg (binKd 9 ⟨xk, xn⟩ ⟨yk, yn⟩).1.cells.toArray, .bool (binKd 9 ⟨xk, xn⟩ ⟨yk, yn⟩).2]) ∧ Below w.heap.size w w' := by
  have hx2 := Below.refl (((w.alloc (.cells #[.int .i64 xk, .bool xn] 167)).alloc (.cells #[.int .i64 yk, .bool yn] 167)).alloc (.cells #[.int .i64 0, .bool false] 167)).heap.size (((w.alloc (.cells #[.int .i64 xk, .bool xn] 167)).alloc (.cells #[.int .i64 yk, .bool yn] 167)).alloc (.cells #[.int .i64 0, .bool false] 167))
  obtain ⟨R, hR⟩ : ∃ R : Value, R = .tuple #[.agg (binKd 9 ⟨xk, xn⟩ ⟨yk, yn⟩).1.cells.toArray, .bool (binKd 9 ⟨xk, xn⟩ ⟨yk, yn⟩).2] := ⟨_, rfl⟩
  rw [← hR]
  have HR := hide hR
  clear hR
  cases xn <;> cases yn
  all_goals (
    go_enter Tryz.func182, Tryz.ntmps182
    go_wp2_with (first | (go_at_call 179; refine (fits_ref _ _ _ _).mono ?_; rintro e w1 ⟨rfl, hb1⟩; have hx2 := below_trans hx2 hb1; have c0 := (bcell hx2).1 w.heap.size 0 (by simp <;> omega); have c1 := (bcell hx2).1 w.heap.size 1 (by simp <;> omega); have e0 := (bcell hx2).1 (w.heap.size + 1) 0 (by simp <;> omega); have e1 := (bcell hx2).1 (w.heap.size + 1) 1 (by simp <;> omega); have d0 := (bcell hx2).1 (w.heap.size + 1 + 1) 0 (by simp <;> omega); have d1 := (bcell hx2).1 (w.heap.size + 1 + 1) 1 (by simp <;> omega); have F0 := (bcell hx2).2 (w.heap.size + 1 + 1) 0 (by simp <;> omega); have F1 := (bcell hx2).2 (w.heap.size + 1 + 1) 1 (by simp <;> omega); simp [go_sem] at c0 c1 e0 e1 d0 d1 F0 F1; have HB : Hid (Below w.heap.size w w1) := hide (below_trans (below_trans below_alloc2 below_alloc) hx2); have HS := hide (made_pair d0 d1); clear hb1) | (go_at_call 178; refine (common_ref _ _ _ _ _).mono ?_; rintro e w1 ⟨rfl, hb1⟩; have hx2 := below_trans hx2 hb1; have c0 := (bcell hx2).1 w.heap.size 0 (by simp <;> omega); have c1 := (bcell hx2).1 w.heap.size 1 (by simp <;> omega); have e0 := (bcell hx2).1 (w.heap.size + 1) 0 (by simp <;> omega); have e1 := (bcell hx2).1 (w.heap.size + 1) 1 (by simp <;> omega); have d0 := (bcell hx2).1 (w.heap.size + 1 + 1) 0 (by simp <;> omega); have d1 := (bcell hx2).1 (w.heap.size + 1 + 1) 1 (by simp <;> omega); have F0 := (bcell hx2).2 (w.heap.size + 1 + 1) 0 (by simp <;> omega); have F1 := (bcell hx2).2 (w.heap.size + 1 + 1) 1 (by simp <;> omega); simp [go_sem] at c0 c1 e0 e1 d0 d1 F0 F1; have HB : Hid (Below w.heap.size w w1) := hide (below_trans (below_trans below_alloc2 below_alloc) hx2); have HS := hide (made_pair d0 d1); clear hb1))
    all_goals (
      refine bodyPost_ret (v := R) ?_ rfl ⟨rfl, by first | exact (HB.out.setCell (by simp <;> omega) _).setCell (by simp <;> omega) _ | exact below_trans below_alloc2 below_alloc⟩
      rw [HR.out]
      first | (obtain ⟨S0, S1⟩ := HS.out; simp [results, Tryz.results182, go_sem, S0, S1]) | simp [results, Tryz.results182, go_sem]
      all_goals (first | (simp [binKd, Kd.cells]; done) | (simp [binKd, Kd.cells]; intros; first | assumption | contradiction | simp_all))))
set_option maxHeartbeats 4000000 in
set_option maxRecDepth 100000 in
theorem binary_10 (xk yk : Int) (xn yn : Bool) (w : World) :
    Calls Tryz.prog 182 #[.int .i64 10, .agg #[.int .i64 xk, .bool xn], .agg #[.int .i64 yk, .bool yn]] w fun e w' => e = .returned (.tuple #[.agg (binKd 10 ⟨xk, xn⟩ ⟨yk, yn⟩).1.cells.toArray, .bool (binKd 10 ⟨xk, xn⟩ ⟨yk, yn⟩).2]) ∧ Below w.heap.size w w' := by
  have hx2 := Below.refl (((w.alloc (.cells #[.int .i64 xk, .bool xn] 167)).alloc (.cells #[.int .i64 yk, .bool yn] 167)).alloc (.cells #[.int .i64 0, .bool false] 167)).heap.size (((w.alloc (.cells #[.int .i64 xk, .bool xn] 167)).alloc (.cells #[.int .i64 yk, .bool yn] 167)).alloc (.cells #[.int .i64 0, .bool false] 167))
  obtain ⟨R, hR⟩ : ∃ R : Value, R = .tuple #[.agg (binKd 10 ⟨xk, xn⟩ ⟨yk, yn⟩).1.cells.toArray, .bool (binKd 10 ⟨xk, xn⟩ ⟨yk, yn⟩).2] := ⟨_, rfl⟩
  rw [← hR]
  have HR := hide hR
  clear hR
  cases xn <;> cases yn
  all_goals (
    go_enter Tryz.func182, Tryz.ntmps182
    go_wp2_with (first | (go_at_call 179; refine (fits_ref _ _ _ _).mono ?_; rintro e w1 ⟨rfl, hb1⟩; have hx2 := below_trans hx2 hb1; have c0 := (bcell hx2).1 w.heap.size 0 (by simp <;> omega); have c1 := (bcell hx2).1 w.heap.size 1 (by simp <;> omega); have e0 := (bcell hx2).1 (w.heap.size + 1) 0 (by simp <;> omega); have e1 := (bcell hx2).1 (w.heap.size + 1) 1 (by simp <;> omega); have d0 := (bcell hx2).1 (w.heap.size + 1 + 1) 0 (by simp <;> omega); have d1 := (bcell hx2).1 (w.heap.size + 1 + 1) 1 (by simp <;> omega); have F0 := (bcell hx2).2 (w.heap.size + 1 + 1) 0 (by simp <;> omega); have F1 := (bcell hx2).2 (w.heap.size + 1 + 1) 1 (by simp <;> omega); simp [go_sem] at c0 c1 e0 e1 d0 d1 F0 F1; have HB : Hid (Below w.heap.size w w1) := hide (below_trans (below_trans below_alloc2 below_alloc) hx2); have HS := hide (made_pair d0 d1); clear hb1) | (go_at_call 178; refine (common_ref _ _ _ _ _).mono ?_; rintro e w1 ⟨rfl, hb1⟩; have hx2 := below_trans hx2 hb1; have c0 := (bcell hx2).1 w.heap.size 0 (by simp <;> omega); have c1 := (bcell hx2).1 w.heap.size 1 (by simp <;> omega); have e0 := (bcell hx2).1 (w.heap.size + 1) 0 (by simp <;> omega); have e1 := (bcell hx2).1 (w.heap.size + 1) 1 (by simp <;> omega); have d0 := (bcell hx2).1 (w.heap.size + 1 + 1) 0 (by simp <;> omega); have d1 := (bcell hx2).1 (w.heap.size + 1 + 1) 1 (by simp <;> omega); have F0 := (bcell hx2).2 (w.heap.size + 1 + 1) 0 (by simp <;> omega); have F1 := (bcell hx2).2 (w.heap.size + 1 + 1) 1 (by simp <;> omega); simp [go_sem] at c0 c1 e0 e1 d0 d1 F0 F1; have HB : Hid (Below w.heap.size w w1) := hide (below_trans (below_trans below_alloc2 below_alloc) hx2); have HS := hide (made_pair d0 d1); clear hb1))
    all_goals (
      refine bodyPost_ret (v := R) ?_ rfl ⟨rfl, by first | exact (HB.out.setCell (by simp <;> omega) _).setCell (by simp <;> omega) _ | exact below_trans below_alloc2 below_alloc⟩
      rw [HR.out]
      first | (obtain ⟨S0, S1⟩ := HS.out; simp [results, Tryz.results182, go_sem, S0, S1]) | simp [results, Tryz.results182, go_sem]
      all_goals (first | (simp [binKd, Kd.cells]; done) | (simp [binKd, Kd.cells]; intros; first | assumption | contradiction | simp_all))))
set_option maxHeartbeats 4000000 in
set_option maxRecDepth 100000 in
theorem binary_11 (xk yk : Int) (xn yn : Bool) (w : World) :
    Calls Tryz.prog 182 #[.int .i64 11, .agg #[.int .i64 xk, .bool xn], .agg #[.int .i64 yk, .bool yn]] w fun e w' => e = .returned (.tuple #[.agg (binKd 11 ⟨xk, xn⟩ ⟨yk, yn⟩).1.cells.toArray, .bool (binKd 11 ⟨xk, xn⟩ ⟨yk, yn⟩).2]) ∧ Below w.heap.size w w' := by
  have hx2 := Below.refl (((w.alloc (.cells #[.int .i64 xk, .bool xn] 167)).alloc (.cells #[.int .i64 yk, .bool yn] 167)).alloc (.cells #[.int .i64 0, .bool false] 167)).heap.size (((w.alloc (.cells #[.int .i64 xk, .bool xn] 167)).alloc (.cells #[.int .i64 yk, .bool yn] 167)).alloc (.cells #[.int .i64 0, .bool false] 167))
  obtain ⟨R, hR⟩ : ∃ R : Value, R = .tuple #[.agg (binKd 11 ⟨xk, xn⟩ ⟨yk, yn⟩).1.cells.toArray, .bool (binKd 11 ⟨xk, xn⟩ ⟨yk, yn⟩).2] := ⟨_, rfl⟩
  rw [← hR]
  have HR := hide hR
  clear hR
  cases xn <;> cases yn
  all_goals (
    go_enter Tryz.func182, Tryz.ntmps182
    go_wp2_with (first | (go_at_call 179; refine (fits_ref _ _ _ _).mono ?_; rintro e w1 ⟨rfl, hb1⟩; have hx2 := below_trans hx2 hb1; have c0 := (bcell hx2).1 w.heap.size 0 (by simp <;> omega); have c1 := (bcell hx2).1 w.heap.size 1 (by simp <;> omega); have e0 := (bcell hx2).1 (w.heap.size + 1) 0 (by simp <;> omega); have e1 := (bcell hx2).1 (w.heap.size + 1) 1 (by simp <;> omega); have d0 := (bcell hx2).1 (w.heap.size + 1 + 1) 0 (by simp <;> omega); have d1 := (bcell hx2).1 (w.heap.size + 1 + 1) 1 (by simp <;> omega); have F0 := (bcell hx2).2 (w.heap.size + 1 + 1) 0 (by simp <;> omega); have F1 := (bcell hx2).2 (w.heap.size + 1 + 1) 1 (by simp <;> omega); simp [go_sem] at c0 c1 e0 e1 d0 d1 F0 F1; have HB : Hid (Below w.heap.size w w1) := hide (below_trans (below_trans below_alloc2 below_alloc) hx2); have HS := hide (made_pair d0 d1); clear hb1) | (go_at_call 178; refine (common_ref _ _ _ _ _).mono ?_; rintro e w1 ⟨rfl, hb1⟩; have hx2 := below_trans hx2 hb1; have c0 := (bcell hx2).1 w.heap.size 0 (by simp <;> omega); have c1 := (bcell hx2).1 w.heap.size 1 (by simp <;> omega); have e0 := (bcell hx2).1 (w.heap.size + 1) 0 (by simp <;> omega); have e1 := (bcell hx2).1 (w.heap.size + 1) 1 (by simp <;> omega); have d0 := (bcell hx2).1 (w.heap.size + 1 + 1) 0 (by simp <;> omega); have d1 := (bcell hx2).1 (w.heap.size + 1 + 1) 1 (by simp <;> omega); have F0 := (bcell hx2).2 (w.heap.size + 1 + 1) 0 (by simp <;> omega); have F1 := (bcell hx2).2 (w.heap.size + 1 + 1) 1 (by simp <;> omega); simp [go_sem] at c0 c1 e0 e1 d0 d1 F0 F1; have HB : Hid (Below w.heap.size w w1) := hide (below_trans (below_trans below_alloc2 below_alloc) hx2); have HS := hide (made_pair d0 d1); clear hb1))
    all_goals (
      refine bodyPost_ret (v := R) ?_ rfl ⟨rfl, by first | exact (HB.out.setCell (by simp <;> omega) _).setCell (by simp <;> omega) _ | exact below_trans below_alloc2 below_alloc⟩
      rw [HR.out]
      first | (obtain ⟨S0, S1⟩ := HS.out; simp [results, Tryz.results182, go_sem, S0, S1]) | simp [results, Tryz.results182, go_sem]
      all_goals (first | (simp [binKd, Kd.cells]; done) | (simp [binKd, Kd.cells]; intros; first | assumption | contradiction | simp_all))))
set_option maxHeartbeats 4000000 in
set_option maxRecDepth 100000 in
theorem binary_12 (xk yk : Int) (xn yn : Bool) (w : World) :
    Calls Tryz.prog 182 #[.int .i64 12, .agg #[.int .i64 xk, .bool xn], .agg #[.int .i64 yk, .bool yn]] w fun e w' => e = .returned (.tuple #[.agg (binKd 12 ⟨xk, xn⟩ ⟨yk, yn⟩).1.cells.toArray, .bool (binKd 12 ⟨xk, xn⟩ ⟨yk, yn⟩).2]) ∧ Below w.heap.size w w' := by
  have hx2 := Below.refl (((w.alloc (.cells #[.int .i64 xk, .bool xn] 167)).alloc (.cells #[.int .i64 yk, .bool yn] 167)).alloc (.cells #[.int .i64 0, .bool false] 167)).heap.size (((w.alloc (.cells #[.int .i64 xk, .bool xn] 167)).alloc (.cells #[.int .i64 yk, .bool yn] 167)).alloc (.cells #[.int .i64 0, .bool false] 167))
  obtain ⟨R, hR⟩ : ∃ R : Value, R = .tuple #[.agg (binKd 12 ⟨xk, xn⟩ ⟨yk, yn⟩).1.cells.toArray, .bool (binKd 12 ⟨xk, xn⟩ ⟨yk, yn⟩).2] := ⟨_, rfl⟩
  rw [← hR]
  have HR := hide hR
  clear hR
  cases xn <;> cases yn
  all_goals (
    go_enter Tryz.func182, Tryz.ntmps182
    go_wp2_with (first | (go_at_call 179; refine (fits_ref _ _ _ _).mono ?_; rintro e w1 ⟨rfl, hb1⟩; have hx2 := below_trans hx2 hb1; have c0 := (bcell hx2).1 w.heap.size 0 (by simp <;> omega); have c1 := (bcell hx2).1 w.heap.size 1 (by simp <;> omega); have e0 := (bcell hx2).1 (w.heap.size + 1) 0 (by simp <;> omega); have e1 := (bcell hx2).1 (w.heap.size + 1) 1 (by simp <;> omega); have d0 := (bcell hx2).1 (w.heap.size + 1 + 1) 0 (by simp <;> omega); have d1 := (bcell hx2).1 (w.heap.size + 1 + 1) 1 (by simp <;> omega); have F0 := (bcell hx2).2 (w.heap.size + 1 + 1) 0 (by simp <;> omega); have F1 := (bcell hx2).2 (w.heap.size + 1 + 1) 1 (by simp <;> omega); simp [go_sem] at c0 c1 e0 e1 d0 d1 F0 F1; have HB : Hid (Below w.heap.size w w1) := hide (below_trans (below_trans below_alloc2 below_alloc) hx2); have HS := hide (made_pair d0 d1); clear hb1) | (go_at_call 178; refine (common_ref _ _ _ _ _).mono ?_; rintro e w1 ⟨rfl, hb1⟩; have hx2 := below_trans hx2 hb1; have c0 := (bcell hx2).1 w.heap.size 0 (by simp <;> omega); have c1 := (bcell hx2).1 w.heap.size 1 (by simp <;> omega); have e0 := (bcell hx2).1 (w.heap.size + 1) 0 (by simp <;> omega); have e1 := (bcell hx2).1 (w.heap.size + 1) 1 (by simp <;> omega); have d0 := (bcell hx2).1 (w.heap.size + 1 + 1) 0 (by simp <;> omega); have d1 := (bcell hx2).1 (w.heap.size + 1 + 1) 1 (by simp <;> omega); have F0 := (bcell hx2).2 (w.heap.size + 1 + 1) 0 (by simp <;> omega); have F1 := (bcell hx2).2 (w.heap.size + 1 + 1) 1 (by simp <;> omega); simp [go_sem] at c0 c1 e0 e1 d0 d1 F0 F1; have HB : Hid (Below w.heap.size w w1) := hide (below_trans (below_trans below_alloc2 below_alloc) hx2); have HS := hide (made_pair d0 d1); clear hb1))
    all_goals (
      refine bodyPost_ret (v := R) ?_ rfl ⟨rfl, by first | exact (HB.out.setCell (by simp <;> omega) _).setCell (by simp <;> omega) _ | exact below_trans below_alloc2 below_alloc⟩
      rw [HR.out]
      first | (obtain ⟨S0, S1⟩ := HS.out; simp [results, Tryz.results182, go_sem, S0, S1]) | simp [results, Tryz.results182, go_sem]
      all_goals (first | (simp [binKd, Kd.cells]; done) | (simp [binKd, Kd.cells]; intros; first | assumption | contradiction | simp_all))))
set_option maxHeartbeats 4000000 in
set_option maxRecDepth 100000 in
theorem binary_13 (xk yk : Int) (xn yn : Bool) (w : World) :
    Calls Tryz.prog 182 #[.int .i64 13, .agg #[.int .i64 xk, .bool xn], .agg #[.int .i64 yk, .bool yn]] w fun e w' => e = .returned (.tuple #[.agg (binKd 13 ⟨xk, xn⟩ ⟨yk, yn⟩).1.cells.toArray, .bool (binKd 13 ⟨xk, xn⟩ ⟨yk, yn⟩).2]) ∧ Below w.heap.size w w' := by
  have hx2 := Below.refl (((w.alloc (.cells #[.int .i64 xk, .bool xn] 167)).alloc (.cells #[.int .i64 yk, .bool yn] 167)).alloc (.cells #[.int .i64 0, .bool false] 167)).heap.size (((w.alloc (.cells #[.int .i64 xk, .bool xn] 167)).alloc (.cells #[.int .i64 yk, .bool yn] 167)).alloc (.cells #[.int .i64 0, .bool false] 167))
  obtain ⟨R, hR⟩ : ∃ R : Value, R = .tuple #[.agg (binKd 13 ⟨xk, xn⟩ ⟨yk, yn⟩).1.cells.toArray, .bool (binKd 13 ⟨xk, xn⟩ ⟨yk, yn⟩).2] := ⟨_, rfl⟩
  rw [← hR]
  have HR := hide hR
  clear hR
  cases xn <;> cases yn
  all_goals (
    go_enter Tryz.func182, Tryz.ntmps182
    go_wp2_with (first | (go_at_call 179; refine (fits_ref _ _ _ _).mono ?_; rintro e w1 ⟨rfl, hb1⟩; have hx2 := below_trans hx2 hb1; have c0 := (bcell hx2).1 w.heap.size 0 (by simp <;> omega); have c1 := (bcell hx2).1 w.heap.size 1 (by simp <;> omega); have e0 := (bcell hx2).1 (w.heap.size + 1) 0 (by simp <;> omega); have e1 := (bcell hx2).1 (w.heap.size + 1) 1 (by simp <;> omega); have d0 := (bcell hx2).1 (w.heap.size + 1 + 1) 0 (by simp <;> omega); have d1 := (bcell hx2).1 (w.heap.size + 1 + 1) 1 (by simp <;> omega); have F0 := (bcell hx2).2 (w.heap.size + 1 + 1) 0 (by simp <;> omega); have F1 := (bcell hx2).2 (w.heap.size + 1 + 1) 1 (by simp <;> omega); simp [go_sem] at c0 c1 e0 e1 d0 d1 F0 F1; have HB : Hid (Below w.heap.size w w1) := hide (below_trans (below_trans below_alloc2 below_alloc) hx2); have HS := hide (made_pair d0 d1); clear hb1) | (go_at_call 178; refine (common_ref _ _ _ _ _).mono ?_; rintro e w1 ⟨rfl, hb1⟩; have hx2 := below_trans hx2 hb1; have c0 := (bcell hx2).1 w.heap.size 0 (by simp <;> omega); have c1 := (bcell hx2).1 w.heap.size 1 (by simp <;> omega); have e0 := (bcell hx2).1 (w.heap.size + 1) 0 (by simp <;> omega); have e1 := (bcell hx2).1 (w.heap.size + 1) 1 (by simp <;> omega); have d0 := (bcell hx2).1 (w.heap.size + 1 + 1) 0 (by simp <;> omega); have d1 := (bcell hx2).1 (w.heap.size + 1 + 1) 1 (by simp <;> omega); have F0 := (bcell hx2).2 (w.heap.size + 1 + 1) 0 (by simp <;> omega); have F1 := (bcell hx2).2 (w.heap.size + 1 + 1) 1 (by simp <;> omega); simp [go_sem] at c0 c1 e0 e1 d0 d1 F0 F1; have HB : Hid (Below w.heap.size w w1) := hide (below_trans (below_trans below_alloc2 below_alloc) hx2); have HS := hide (made_pair d0 d1); clear hb1))
    all_goals (
      refine bodyPost_ret (v := R) ?_ rfl ⟨rfl, by first | exact (HB.out.setCell (by simp <;> omega) _).setCell (by simp <;> omega) _ | exact below_trans below_alloc2 below_alloc⟩
      rw [HR.out]
      first | (obtain ⟨S0, S1⟩ := HS.out; simp [results, Tryz.results182, go_sem, S0, S1]) | simp [results, Tryz.results182, go_sem]
      all_goals (first | (simp [binKd, Kd.cells]; done) | (simp [binKd, Kd.cells]; intros; first | assumption | contradiction | simp_all))))
set_option maxHeartbeats 4000000 in
set_option maxRecDepth 100000 in
theorem binary_14 (xk yk : Int) (xn yn : Bool) (w : World) :
    Calls Tryz.prog 182 #[.int .i64 14, .agg #[.int .i64 xk, .bool xn], .agg #[.int .i64 yk, .bool yn]] w fun e w' => e = .returned (.tuple #[.agg (binKd 14 ⟨xk, xn⟩ ⟨yk, yn⟩).1.cells.toArray, .bool (binKd 14 ⟨xk, xn⟩ ⟨yk, yn⟩).2]) ∧ Below w.heap.size w w' := by
  have hx2 := Below.refl (((w.alloc (.cells #[.int .i64 xk, .bool xn] 167)).alloc (.cells #[.int .i64 yk, .bool yn] 167)).alloc (.cells #[.int .i64 0, .bool false] 167)).heap.size (((w.alloc (.cells #[.int .i64 xk, .bool xn] 167)).alloc (.cells #[.int .i64 yk, .bool yn] 167)).alloc (.cells #[.int .i64 0, .bool false] 167))
  obtain ⟨R, hR⟩ : ∃ R : Value, R = .tuple #[.agg (binKd 14 ⟨xk, xn⟩ ⟨yk, yn⟩).1.cells.toArray, .bool (binKd 14 ⟨xk, xn⟩ ⟨yk, yn⟩).2] := ⟨_, rfl⟩
  rw [← hR]
  have HR := hide hR
  clear hR
  cases xn <;> cases yn
  all_goals (
    go_enter Tryz.func182, Tryz.ntmps182
    go_wp2_with (first | (go_at_call 179; refine (fits_ref _ _ _ _).mono ?_; rintro e w1 ⟨rfl, hb1⟩; have hx2 := below_trans hx2 hb1; have c0 := (bcell hx2).1 w.heap.size 0 (by simp <;> omega); have c1 := (bcell hx2).1 w.heap.size 1 (by simp <;> omega); have e0 := (bcell hx2).1 (w.heap.size + 1) 0 (by simp <;> omega); have e1 := (bcell hx2).1 (w.heap.size + 1) 1 (by simp <;> omega); have d0 := (bcell hx2).1 (w.heap.size + 1 + 1) 0 (by simp <;> omega); have d1 := (bcell hx2).1 (w.heap.size + 1 + 1) 1 (by simp <;> omega); have F0 := (bcell hx2).2 (w.heap.size + 1 + 1) 0 (by simp <;> omega); have F1 := (bcell hx2).2 (w.heap.size + 1 + 1) 1 (by simp <;> omega); simp [go_sem] at c0 c1 e0 e1 d0 d1 F0 F1; have HB : Hid (Below w.heap.size w w1) := hide (below_trans (below_trans below_alloc2 below_alloc) hx2); have HS := hide (made_pair d0 d1); clear hb1) | (go_at_call 178; refine (common_ref _ _ _ _ _).mono ?_; rintro e w1 ⟨rfl, hb1⟩; have hx2 := below_trans hx2 hb1; have c0 := (bcell hx2).1 w.heap.size 0 (by simp <;> omega); have c1 := (bcell hx2).1 w.heap.size 1 (by simp <;> omega); have e0 := (bcell hx2).1 (w.heap.size + 1) 0 (by simp <;> omega); have e1 := (bcell hx2).1 (w.heap.size + 1) 1 (by simp <;> omega); have d0 := (bcell hx2).1 (w.heap.size + 1 + 1) 0 (by simp <;> omega); have d1 := (bcell hx2).1 (w.heap.size + 1 + 1) 1 (by simp <;> omega); have F0 := (bcell hx2).2 (w.heap.size + 1 + 1) 0 (by simp <;> omega); have F1 := (bcell hx2).2 (w.heap.size + 1 + 1) 1 (by simp <;> omega); simp [go_sem] at c0 c1 e0 e1 d0 d1 F0 F1; have HB : Hid (Below w.heap.size w w1) := hide (below_trans (below_trans below_alloc2 below_alloc) hx2); have HS := hide (made_pair d0 d1); clear hb1))
    all_goals (
      refine bodyPost_ret (v := R) ?_ rfl ⟨rfl, by first | exact (HB.out.setCell (by simp <;> omega) _).setCell (by simp <;> omega) _ | exact below_trans below_alloc2 below_alloc⟩
      rw [HR.out]
      first | (obtain ⟨S0, S1⟩ := HS.out; simp [results, Tryz.results182, go_sem, S0, S1]) | simp [results, Tryz.results182, go_sem]
      all_goals (first | (simp [binKd, Kd.cells]; done) | (simp [binKd, Kd.cells]; intros; first | assumption | contradiction | simp_all))))
set_option maxHeartbeats 4000000 in
set_option maxRecDepth 100000 in
theorem binary_15 (xk yk : Int) (xn yn : Bool) (w : World) :
    Calls Tryz.prog 182 #[.int .i64 15, .agg #[.int .i64 xk, .bool xn], .agg #[.int .i64 yk, .bool yn]] w fun e w' => e = .returned (.tuple #[.agg (binKd 15 ⟨xk, xn⟩ ⟨yk, yn⟩).1.cells.toArray, .bool (binKd 15 ⟨xk, xn⟩ ⟨yk, yn⟩).2]) ∧ Below w.heap.size w w' := by
  have hx2 := Below.refl (((w.alloc (.cells #[.int .i64 xk, .bool xn] 167)).alloc (.cells #[.int .i64 yk, .bool yn] 167)).alloc (.cells #[.int .i64 0, .bool false] 167)).heap.size (((w.alloc (.cells #[.int .i64 xk, .bool xn] 167)).alloc (.cells #[.int .i64 yk, .bool yn] 167)).alloc (.cells #[.int .i64 0, .bool false] 167))
  obtain ⟨R, hR⟩ : ∃ R : Value, R = .tuple #[.agg (binKd 15 ⟨xk, xn⟩ ⟨yk, yn⟩).1.cells.toArray, .bool (binKd 15 ⟨xk, xn⟩ ⟨yk, yn⟩).2] := ⟨_, rfl⟩
  rw [← hR]
  have HR := hide hR
  clear hR
  cases xn <;> cases yn
  all_goals (
    go_enter Tryz.func182, Tryz.ntmps182
    go_wp2_with (first | (go_at_call 179; refine (fits_ref _ _ _ _).mono ?_; rintro e w1 ⟨rfl, hb1⟩; have hx2 := below_trans hx2 hb1; have c0 := (bcell hx2).1 w.heap.size 0 (by simp <;> omega); have c1 := (bcell hx2).1 w.heap.size 1 (by simp <;> omega); have e0 := (bcell hx2).1 (w.heap.size + 1) 0 (by simp <;> omega); have e1 := (bcell hx2).1 (w.heap.size + 1) 1 (by simp <;> omega); have d0 := (bcell hx2).1 (w.heap.size + 1 + 1) 0 (by simp <;> omega); have d1 := (bcell hx2).1 (w.heap.size + 1 + 1) 1 (by simp <;> omega); have F0 := (bcell hx2).2 (w.heap.size + 1 + 1) 0 (by simp <;> omega); have F1 := (bcell hx2).2 (w.heap.size + 1 + 1) 1 (by simp <;> omega); simp [go_sem] at c0 c1 e0 e1 d0 d1 F0 F1; have HB : Hid (Below w.heap.size w w1) := hide (below_trans (below_trans below_alloc2 below_alloc) hx2); have HS := hide (made_pair d0 d1); clear hb1) | (go_at_call 178; refine (common_ref _ _ _ _ _).mono ?_; rintro e w1 ⟨rfl, hb1⟩; have hx2 := below_trans hx2 hb1; have c0 := (bcell hx2).1 w.heap.size 0 (by simp <;> omega); have c1 := (bcell hx2).1 w.heap.size 1 (by simp <;> omega); have e0 := (bcell hx2).1 (w.heap.size + 1) 0 (by simp <;> omega); have e1 := (bcell hx2).1 (w.heap.size + 1) 1 (by simp <;> omega); have d0 := (bcell hx2).1 (w.heap.size + 1 + 1) 0 (by simp <;> omega); have d1 := (bcell hx2).1 (w.heap.size + 1 + 1) 1 (by simp <;> omega); have F0 := (bcell hx2).2 (w.heap.size + 1 + 1) 0 (by simp <;> omega); have F1 := (bcell hx2).2 (w.heap.size + 1 + 1) 1 (by simp <;> omega); simp [go_sem] at c0 c1 e0 e1 d0 d1 F0 F1; have HB : Hid (Below w.heap.size w w1) := hide (below_trans (below_trans below_alloc2 below_alloc) hx2); have HS := hide (made_pair d0 d1); clear hb1))
    all_goals (
      refine bodyPost_ret (v := R) ?_ rfl ⟨rfl, by first | exact (HB.out.setCell (by simp <;> omega) _).setCell (by simp <;> omega) _ | exact below_trans below_alloc2 below_alloc⟩
      rw [HR.out]
      first | (obtain ⟨S0, S1⟩ := HS.out; simp [results, Tryz.results182, go_sem, S0, S1]) | simp [results, Tryz.results182, go_sem]
      all_goals (first | (simp [binKd, Kd.cells]; done) | (simp [binKd, Kd.cells]; intros; first | assumption | contradiction | simp_all))))
set_option maxHeartbeats 4000000 in
set_option maxRecDepth 100000 in
theorem binary_18 (xk yk : Int) (xn yn : Bool) (w : World) :
    Calls Tryz.prog 182 #[.int .i64 18, .agg #[.int .i64 xk, .bool xn], .agg #[.int .i64 yk, .bool yn]] w fun e w' => e = .returned (.tuple #[.agg (binKd 18 ⟨xk, xn⟩ ⟨yk, yn⟩).1.cells.toArray, .bool (binKd 18 ⟨xk, xn⟩ ⟨yk, yn⟩).2]) ∧ Below w.heap.size w w' := by
  have hx2 := Below.refl (((w.alloc (.cells #[.int .i64 xk, .bool xn] 167)).alloc (.cells #[.int .i64 yk, .bool yn] 167)).alloc (.cells #[.int .i64 0, .bool false] 167)).heap.size (((w.alloc (.cells #[.int .i64 xk, .bool xn] 167)).alloc (.cells #[.int .i64 yk, .bool yn] 167)).alloc (.cells #[.int .i64 0, .bool false] 167))
  obtain ⟨R, hR⟩ : ∃ R : Value, R = .tuple #[.agg (binKd 18 ⟨xk, xn⟩ ⟨yk, yn⟩).1.cells.toArray, .bool (binKd 18 ⟨xk, xn⟩ ⟨yk, yn⟩).2] := ⟨_, rfl⟩
  rw [← hR]
  have HR := hide hR
  clear hR
  cases xn <;> cases yn
  all_goals (
    go_enter Tryz.func182, Tryz.ntmps182
    go_wp2_with (first | (go_at_call 179; refine (fits_ref _ _ _ _).mono ?_; rintro e w1 ⟨rfl, hb1⟩; have hx2 := below_trans hx2 hb1; have c0 := (bcell hx2).1 w.heap.size 0 (by simp <;> omega); have c1 := (bcell hx2).1 w.heap.size 1 (by simp <;> omega); have e0 := (bcell hx2).1 (w.heap.size + 1) 0 (by simp <;> omega); have e1 := (bcell hx2).1 (w.heap.size + 1) 1 (by simp <;> omega); have d0 := (bcell hx2).1 (w.heap.size + 1 + 1) 0 (by simp <;> omega); have d1 := (bcell hx2).1 (w.heap.size + 1 + 1) 1 (by simp <;> omega); have F0 := (bcell hx2).2 (w.heap.size + 1 + 1) 0 (by simp <;> omega); have F1 := (bcell hx2).2 (w.heap.size + 1 + 1) 1 (by simp <;> omega); simp [go_sem] at c0 c1 e0 e1 d0 d1 F0 F1; have HB : Hid (Below w.heap.size w w1) := hide (below_trans (below_trans below_alloc2 below_alloc) hx2); have HS := hide (made_pair d0 d1); clear hb1) | (go_at_call 178; refine (common_ref _ _ _ _ _).mono ?_; rintro e w1 ⟨rfl, hb1⟩; have hx2 := below_trans hx2 hb1; have c0 := (bcell hx2).1 w.heap.size 0 (by simp <;> omega); have c1 := (bcell hx2).1 w.heap.size 1 (by simp <;> omega); have e0 := (bcell hx2).1 (w.heap.size + 1) 0 (by simp <;> omega); have e1 := (bcell hx2).1 (w.heap.size + 1) 1 (by simp <;> omega); have d0 := (bcell hx2).1 (w.heap.size + 1 + 1) 0 (by simp <;> omega); have d1 := (bcell hx2).1 (w.heap.size + 1 + 1) 1 (by simp <;> omega); have F0 := (bcell hx2).2 (w.heap.size + 1 + 1) 0 (by simp <;> omega); have F1 := (bcell hx2).2 (w.heap.size + 1 + 1) 1 (by simp <;> omega); simp [go_sem] at c0 c1 e0 e1 d0 d1 F0 F1; have HB : Hid (Below w.heap.size w w1) := hide (below_trans (below_trans below_alloc2 below_alloc) hx2); have HS := hide (made_pair d0 d1); clear hb1))
    all_goals (
      refine bodyPost_ret (v := R) ?_ rfl ⟨rfl, by first | exact (HB.out.setCell (by simp <;> omega) _).setCell (by simp <;> omega) _ | exact below_trans below_alloc2 below_alloc⟩
      rw [HR.out]
      first | (obtain ⟨S0, S1⟩ := HS.out; simp [results, Tryz.results182, go_sem, S0, S1]) | simp [results, Tryz.results182, go_sem]
      all_goals (first | (simp [binKd, Kd.cells]; done) | (simp [binKd, Kd.cells]; intros; first | assumption | contradiction | simp_all))))
end Go.Proofs.YtodapiholjeehaaGreatDoor
