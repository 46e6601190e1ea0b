/-
  warehouseref9.unary, difference and binary: they return unKd and binKd. (Printed by gen_ref9.py.)
-/
import Derived.Test.YtodapiholjeehaaGreatDoorGak
import Derived.Test.YtodapiholjeehaaGreatDoorGaf
namespace Go.Proofs.YtodapiholjeehaaGreatDoor
open Go.RowKit
set_option linter.unusedSimpArgs false
set_option linter.unusedVariables false
theorem made_pair {w : World} {g : Nat} {u0 u1 : Value} (h0 : w.cell? ⟨g, 0, none⟩ = some u0) (h1 : w.cell? ⟨g, 1, none⟩ = some u1) :
    (∀ a, (w.setCell ⟨g, 0, none⟩ a).cell? ⟨g, 0, none⟩ = some a) ∧ (∀ a b, ((w.setCell ⟨g, 0, none⟩ a).setCell ⟨g, 1, none⟩ b).cell? ⟨g, 1, none⟩ = some b) :=
  ⟨fun a => set_same h0, fun a b => set_same (set_far h1 (.inr (by omega)))⟩
set_option maxHeartbeats 4000000 in
set_option maxRecDepth 100000 in
theorem unary_2 (xk : Int) (xn : Bool) (w : World) :
    Calls Tryz.prog 181 #[.int .i64 2, .agg #[.int .i64 xk, .bool xn]] w fun e w' => e = .returned (.tuple #[.agg (unKd 2 ⟨xk, xn⟩).1.cells.toArray, .bool (unKd 2 ⟨xk, xn⟩).2]) ∧ Below w.heap.size w w' := by
  go_enter Tryz.func181, Tryz.ntmps181
  go_wp2
  go_region_held3 (fun V => V.cell? ⟨w.heap.size, 0, none⟩ = some (.int .i64 xk) ∧ V.cell? ⟨w.heap.size, 1, none⟩ = some (.bool xn)) (first | exact ⟨c0, c1⟩ | go_keep) (first | (go_at_call 179; refine (fits_ref _ _ _ _).mono ?_; rintro e w1 ⟨rfl, hb1⟩; have c0 := (bcell hb1).1 w.heap.size 0 (by simp; omega); have c1 := (bcell hb1).1 w.heap.size 1 (by simp; omega); have d0 := (bcell hb1).1 (w.heap.size + 1) 0 (by simp); have d1 := (bcell hb1).1 (w.heap.size + 1) 1 (by simp); have F0 := (bcell hb1).2 (w.heap.size + 1) 0 (by simp); have F1 := (bcell hb1).2 (w.heap.size + 1) 1 (by simp); simp [go_sem] at c0 c1 d0 d1 F0 F1; have HB : Hid (Below w.heap.size w w1) := hide (by first | exact below_trans (below_alloc2.drew) hb1 | exact below_trans ((below_alloc2.drew.setCell (by simp) _).setCell (by simp) _) hb1); have HS := hide (made_pair d0 d1); clear hb1))
  all_goals
    go_wp2
    refine bodyPost_ret (v := .tuple #[.agg (unKd 2 ⟨xk, xn⟩).1.cells.toArray, .bool (unKd 2 ⟨xk, xn⟩).2]) ?_ rfl ⟨rfl, by first | exact (HB.out.setCell (by simp) _).setCell (by simp) _ | exact HB.out⟩
    obtain ⟨S0, S1⟩ := HS.out
    simp [results, Tryz.results181, go_sem, S0, S1, unKd, Kd.cells]
set_option maxHeartbeats 4000000 in
set_option maxRecDepth 100000 in
theorem unary_3 (xk : Int) (xn : Bool) (w : World) :
    Calls Tryz.prog 181 #[.int .i64 3, .agg #[.int .i64 xk, .bool xn]] w fun e w' => e = .returned (.tuple #[.agg (unKd 3 ⟨xk, xn⟩).1.cells.toArray, .bool (unKd 3 ⟨xk, xn⟩).2]) ∧ Below w.heap.size w w' := by
  go_enter Tryz.func181, Tryz.ntmps181
  go_wp2
  go_region_held3 (fun V => V.cell? ⟨w.heap.size, 0, none⟩ = some (.int .i64 xk) ∧ V.cell? ⟨w.heap.size, 1, none⟩ = some (.bool xn)) (first | exact ⟨c0, c1⟩ | go_keep) (first | (go_at_call 179; refine (fits_ref _ _ _ _).mono ?_; rintro e w1 ⟨rfl, hb1⟩; have c0 := (bcell hb1).1 w.heap.size 0 (by simp; omega); have c1 := (bcell hb1).1 w.heap.size 1 (by simp; omega); have d0 := (bcell hb1).1 (w.heap.size + 1) 0 (by simp); have d1 := (bcell hb1).1 (w.heap.size + 1) 1 (by simp); have F0 := (bcell hb1).2 (w.heap.size + 1) 0 (by simp); have F1 := (bcell hb1).2 (w.heap.size + 1) 1 (by simp); simp [go_sem] at c0 c1 d0 d1 F0 F1; have HB : Hid (Below w.heap.size w w1) := hide (by first | exact below_trans (below_alloc2.drew) hb1 | exact below_trans ((below_alloc2.drew.setCell (by simp) _).setCell (by simp) _) hb1); have HS := hide (made_pair d0 d1); clear hb1))
  all_goals
    go_wp2
    refine bodyPost_ret (v := .tuple #[.agg (unKd 3 ⟨xk, xn⟩).1.cells.toArray, .bool (unKd 3 ⟨xk, xn⟩).2]) ?_ rfl ⟨rfl, by first | exact (HB.out.setCell (by simp) _).setCell (by simp) _ | exact HB.out⟩
    obtain ⟨S0, S1⟩ := HS.out
    simp [results, Tryz.results181, go_sem, S0, S1, unKd, Kd.cells]
set_option maxHeartbeats 4000000 in
set_option maxRecDepth 100000 in
theorem unary_16 (xk : Int) (xn : Bool) (w : World) :
    Calls Tryz.prog 181 #[.int .i64 16, .agg #[.int .i64 xk, .bool xn]] w fun e w' => e = .returned (.tuple #[.agg (unKd 16 ⟨xk, xn⟩).1.cells.toArray, .bool (unKd 16 ⟨xk, xn⟩).2]) ∧ Below w.heap.size w w' := by
  go_enter Tryz.func181, Tryz.ntmps181
  go_wp2
  refine bodyPost_ret (v := .tuple #[.agg (unKd 16 ⟨xk, xn⟩).1.cells.toArray, .bool (unKd 16 ⟨xk, xn⟩).2]) ?_ rfl ⟨rfl, by exact below_alloc2⟩
  simp [results, Tryz.results181, go_sem, unKd, Kd.cells]
set_option maxHeartbeats 4000000 in
set_option maxRecDepth 100000 in
theorem unary_19 (xk : Int) (xn : Bool) (w : World) :
    Calls Tryz.prog 181 #[.int .i64 19, .agg #[.int .i64 xk, .bool xn]] w fun e w' => e = .returned (.tuple #[.agg (unKd 19 ⟨xk, xn⟩).1.cells.toArray, .bool (unKd 19 ⟨xk, xn⟩).2]) ∧ Below w.heap.size w w' := by
  go_enter Tryz.func181, Tryz.ntmps181
  go_wp2
  go_region_held3 (fun V => V.cell? ⟨w.heap.size, 0, none⟩ = some (.int .i64 xk) ∧ V.cell? ⟨w.heap.size, 1, none⟩ = some (.bool xn)) (first | exact ⟨c0, c1⟩ | go_keep) (first | (go_at_call 179; refine (fits_ref _ _ _ _).mono ?_; rintro e w1 ⟨rfl, hb1⟩; have c0 := (bcell hb1).1 w.heap.size 0 (by simp; omega); have c1 := (bcell hb1).1 w.heap.size 1 (by simp; omega); have d0 := (bcell hb1).1 (w.heap.size + 1) 0 (by simp); have d1 := (bcell hb1).1 (w.heap.size + 1) 1 (by simp); have F0 := (bcell hb1).2 (w.heap.size + 1) 0 (by simp); have F1 := (bcell hb1).2 (w.heap.size + 1) 1 (by simp); simp [go_sem] at c0 c1 d0 d1 F0 F1; have HB : Hid (Below w.heap.size w w1) := hide (by first | exact below_trans (below_alloc2.drew) hb1 | exact below_trans ((below_alloc2.drew.setCell (by simp) _).setCell (by simp) _) hb1); have HS := hide (made_pair d0 d1); clear hb1))
  all_goals
    go_wp2
    refine bodyPost_ret (v := .tuple #[.agg (unKd 19 ⟨xk, xn⟩).1.cells.toArray, .bool (unKd 19 ⟨xk, xn⟩).2]) ?_ rfl ⟨rfl, by first | exact (HB.out.setCell (by simp) _).setCell (by simp) _ | exact HB.out⟩
    obtain ⟨S0, S1⟩ := HS.out
    simp [results, Tryz.results181, go_sem, S0, S1, unKd, Kd.cells]
set_option maxHeartbeats 4000000 in
set_option maxRecDepth 100000 in
theorem unary_20 (xk : Int) (xn : Bool) (w : World) :
    Calls Tryz.prog 181 #[.int .i64 20, .agg #[.int .i64 xk, .bool xn]] w fun e w' => e = .returned (.tuple #[.agg (unKd 20 ⟨xk, xn⟩).1.cells.toArray, .bool (unKd 20 ⟨xk, xn⟩).2]) ∧ Below w.heap.size w w' := by
  go_enter Tryz.func181, Tryz.ntmps181
  go_wp2
  go_region_held3 (fun V => V.cell? ⟨w.heap.size, 0, none⟩ = some (.int .i64 xk) ∧ V.cell? ⟨w.heap.size, 1, none⟩ = some (.bool xn)) (first | exact ⟨c0, c1⟩ | go_keep) (first | (go_at_call 179; refine (fits_ref _ _ _ _).mono ?_; rintro e w1 ⟨rfl, hb1⟩; have c0 := (bcell hb1).1 w.heap.size 0 (by simp; omega); have c1 := (bcell hb1).1 w.heap.size 1 (by simp; omega); have d0 := (bcell hb1).1 (w.heap.size + 1) 0 (by simp); have d1 := (bcell hb1).1 (w.heap.size + 1) 1 (by simp); have F0 := (bcell hb1).2 (w.heap.size + 1) 0 (by simp); have F1 := (bcell hb1).2 (w.heap.size + 1) 1 (by simp); simp [go_sem] at c0 c1 d0 d1 F0 F1; have HB : Hid (Below w.heap.size w w1) := hide (by first | exact below_trans (below_alloc2.drew) hb1 | exact below_trans ((below_alloc2.drew.setCell (by simp) _).setCell (by simp) _) hb1); have HS := hide (made_pair d0 d1); clear hb1))
  all_goals
    go_wp2
    refine bodyPost_ret (v := .tuple #[.agg (unKd 20 ⟨xk, xn⟩).1.cells.toArray, .bool (unKd 20 ⟨xk, xn⟩).2]) ?_ rfl ⟨rfl, by first | exact (HB.out.setCell (by simp) _).setCell (by simp) _ | exact HB.out⟩
    obtain ⟨S0, S1⟩ := HS.out
    simp [results, Tryz.results181, go_sem, S0, S1, unKd, Kd.cells]
set_option maxHeartbeats 4000000 in
set_option maxRecDepth 100000 in
theorem diff_44 (xn yn : Bool) (w : World) :
    Calls Tryz.prog 224 #[.agg #[.int .i64 4, .bool xn], .agg #[.int .i64 4, .bool yn]] w fun e w' => e = .returned (.tuple #[.agg ((⟨2, xn || yn⟩, true) : Kd × Bool).1.cells.toArray, .bool ((⟨2, xn || yn⟩, true) : Kd × Bool).2]) ∧ Below w.heap.size w w' := by
  have hx2 := Below.refl (((w.alloc (.cells #[.int .i64 4, .bool xn] 167)).alloc (.cells #[.int .i64 4, .bool yn] 167)).alloc (.cells #[.int .i64 0, .bool false] 167)).heap.size (((w.alloc (.cells #[.int .i64 4, .bool xn] 167)).alloc (.cells #[.int .i64 4, .bool yn] 167)).alloc (.cells #[.int .i64 0, .bool false] 167))
  obtain ⟨R, hR⟩ : ∃ R : Value, R = .tuple #[.agg ((⟨2, xn || yn⟩, true) : Kd × Bool).1.cells.toArray, .bool ((⟨2, xn || yn⟩, true) : Kd × Bool).2] := ⟨_, rfl⟩
  rw [← hR]
  have HR := hide hR
  clear hR
  cases xn <;> cases yn
  all_goals (
    go_enter Tryz.func224, Tryz.ntmps224
    go_wp2_with (first | (go_at_call 179; refine (fits_ref _ _ _ _).mono ?_; rintro e w1 ⟨rfl, hb1⟩; have hx2 := below_trans hx2 hb1; have c0 := (bcell hx2).1 w.heap.size 0 (by simp <;> omega); have c1 := (bcell hx2).1 w.heap.size 1 (by simp <;> omega); have e0 := (bcell hx2).1 (w.heap.size + 1) 0 (by simp <;> omega); have e1 := (bcell hx2).1 (w.heap.size + 1) 1 (by simp <;> omega); have d0 := (bcell hx2).1 (w.heap.size + 1 + 1) 0 (by simp <;> omega); have d1 := (bcell hx2).1 (w.heap.size + 1 + 1) 1 (by simp <;> omega); have F0 := (bcell hx2).2 (w.heap.size + 1 + 1) 0 (by simp <;> omega); have F1 := (bcell hx2).2 (w.heap.size + 1 + 1) 1 (by simp <;> omega); simp [go_sem] at c0 c1 e0 e1 d0 d1 F0 F1; have HB : Hid (Below w.heap.size w w1) := hide (below_trans (below_trans below_alloc2 below_alloc) hx2); have HS := hide (made_pair d0 d1); clear hb1))
    all_goals (
      refine bodyPost_ret (v := R) ?_ rfl ⟨rfl, by first | exact (HB.out.setCell (by simp <;> omega) _).setCell (by simp <;> omega) _ | exact below_trans below_alloc2 below_alloc⟩
      rw [HR.out]
      first | (obtain ⟨S0, S1⟩ := HS.out; simp [results, Tryz.results224, go_sem, S0, S1]) | simp [results, Tryz.results224, go_sem]
      all_goals (first | (simp [binKd, Kd.cells, fits]; done) | (simp [binKd, Kd.cells, fits]; intros; first | assumption | contradiction | simp_all))))
set_option maxHeartbeats 4000000 in
set_option maxRecDepth 100000 in
theorem diff_4n (yk : Int) (xn yn : Bool) (w : World) (q1 : (yk == 4) = false) :
    Calls Tryz.prog 224 #[.agg #[.int .i64 4, .bool xn], .agg #[.int .i64 yk, .bool yn]] w fun e w' => e = .returned (.tuple #[.agg ((⟨4, true⟩, fits ⟨yk, yn⟩ 2) : Kd × Bool).1.cells.toArray, .bool ((⟨4, true⟩, fits ⟨yk, yn⟩ 2) : Kd × Bool).2]) ∧ Below w.heap.size w w' := by
  have hx2 := Below.refl (((w.alloc (.cells #[.int .i64 4, .bool xn] 167)).alloc (.cells #[.int .i64 yk, .bool yn] 167)).alloc (.cells #[.int .i64 0, .bool false] 167)).heap.size (((w.alloc (.cells #[.int .i64 4, .bool xn] 167)).alloc (.cells #[.int .i64 yk, .bool yn] 167)).alloc (.cells #[.int .i64 0, .bool false] 167))
  obtain ⟨R, hR⟩ : ∃ R : Value, R = .tuple #[.agg ((⟨4, true⟩, fits ⟨yk, yn⟩ 2) : Kd × Bool).1.cells.toArray, .bool ((⟨4, true⟩, fits ⟨yk, yn⟩ 2) : Kd × Bool).2] := ⟨_, rfl⟩
  rw [← hR]
  have HR := hide hR
  clear hR
  cases xn <;> cases yn
  all_goals (
    go_enter Tryz.func224, Tryz.ntmps224
    go_wp2_with (first | (go_at_call 179; refine (fits_ref _ _ _ _).mono ?_; rintro e w1 ⟨rfl, hb1⟩; have hx2 := below_trans hx2 hb1; have c0 := (bcell hx2).1 w.heap.size 0 (by simp <;> omega); have c1 := (bcell hx2).1 w.heap.size 1 (by simp <;> omega); have e0 := (bcell hx2).1 (w.heap.size + 1) 0 (by simp <;> omega); have e1 := (bcell hx2).1 (w.heap.size + 1) 1 (by simp <;> omega); have d0 := (bcell hx2).1 (w.heap.size + 1 + 1) 0 (by simp <;> omega); have d1 := (bcell hx2).1 (w.heap.size + 1 + 1) 1 (by simp <;> omega); have F0 := (bcell hx2).2 (w.heap.size + 1 + 1) 0 (by simp <;> omega); have F1 := (bcell hx2).2 (w.heap.size + 1 + 1) 1 (by simp <;> omega); simp [go_sem] at c0 c1 e0 e1 d0 d1 F0 F1; have HB : Hid (Below w.heap.size w w1) := hide (below_trans (below_trans below_alloc2 below_alloc) hx2); have HS := hide (made_pair d0 d1); clear hb1))
    all_goals (
      refine bodyPost_ret (v := R) ?_ rfl ⟨rfl, by first | exact (HB.out.setCell (by simp <;> omega) _).setCell (by simp <;> omega) _ | exact below_trans below_alloc2 below_alloc⟩
      rw [HR.out]
      first | (obtain ⟨S0, S1⟩ := HS.out; simp [results, Tryz.results224, go_sem, S0, S1]) | simp [results, Tryz.results224, go_sem]
      all_goals (first | (simp [binKd, Kd.cells, fits]; done) | (simp [binKd, Kd.cells, fits]; intros; first | assumption | contradiction | simp_all))))
set_option maxHeartbeats 4000000 in
set_option maxRecDepth 100000 in
theorem diff_04 (xn yn : Bool) (w : World) :
    Calls Tryz.prog 224 #[.agg #[.int .i64 0, .bool xn], .agg #[.int .i64 4, .bool yn]] w fun e w' => e = .returned (.tuple #[.agg ((⟨2, xn || yn⟩, true) : Kd × Bool).1.cells.toArray, .bool ((⟨2, xn || yn⟩, true) : Kd × Bool).2]) ∧ Below w.heap.size w w' := by
  have hx2 := Below.refl (((w.alloc (.cells #[.int .i64 0, .bool xn] 167)).alloc (.cells #[.int .i64 4, .bool yn] 167)).alloc (.cells #[.int .i64 0, .bool false] 167)).heap.size (((w.alloc (.cells #[.int .i64 0, .bool xn] 167)).alloc (.cells #[.int .i64 4, .bool yn] 167)).alloc (.cells #[.int .i64 0, .bool false] 167))
  obtain ⟨R, hR⟩ : ∃ R : Value, R = .tuple #[.agg ((⟨2, xn || yn⟩, true) : Kd × Bool).1.cells.toArray, .bool ((⟨2, xn || yn⟩, true) : Kd × Bool).2] := ⟨_, rfl⟩
  rw [← hR]
  have HR := hide hR
  clear hR
  cases xn <;> cases yn
  all_goals (
    go_enter Tryz.func224, Tryz.ntmps224
    go_wp2_with (first | (go_at_call 179; refine (fits_ref _ _ _ _).mono ?_; rintro e w1 ⟨rfl, hb1⟩; have hx2 := below_trans hx2 hb1; have c0 := (bcell hx2).1 w.heap.size 0 (by simp <;> omega); have c1 := (bcell hx2).1 w.heap.size 1 (by simp <;> omega); have e0 := (bcell hx2).1 (w.heap.size + 1) 0 (by simp <;> omega); have e1 := (bcell hx2).1 (w.heap.size + 1) 1 (by simp <;> omega); have d0 := (bcell hx2).1 (w.heap.size + 1 + 1) 0 (by simp <;> omega); have d1 := (bcell hx2).1 (w.heap.size + 1 + 1) 1 (by simp <;> omega); have F0 := (bcell hx2).2 (w.heap.size + 1 + 1) 0 (by simp <;> omega); have F1 := (bcell hx2).2 (w.heap.size + 1 + 1) 1 (by simp <;> omega); simp [go_sem] at c0 c1 e0 e1 d0 d1 F0 F1; have HB : Hid (Below w.heap.size w w1) := hide (below_trans (below_trans below_alloc2 below_alloc) hx2); have HS := hide (made_pair d0 d1); clear hb1))
    all_goals (
      refine bodyPost_ret (v := R) ?_ rfl ⟨rfl, by first | exact (HB.out.setCell (by simp <;> omega) _).setCell (by simp <;> omega) _ | exact below_trans below_alloc2 below_alloc⟩
      rw [HR.out]
      first | (obtain ⟨S0, S1⟩ := HS.out; simp [results, Tryz.results224, go_sem, S0, S1]) | simp [results, Tryz.results224, go_sem]
      all_goals (first | (simp [binKd, Kd.cells, fits]; done) | (simp [binKd, Kd.cells, fits]; intros; first | assumption | contradiction | simp_all))))
set_option maxHeartbeats 4000000 in
set_option maxRecDepth 100000 in
theorem diff_n4 (xk : Int) (xn yn : Bool) (w : World) (q1 : (xk == 4) = false) (q2 : (xk == 0) = false) :
    Calls Tryz.prog 224 #[.agg #[.int .i64 xk, .bool xn], .agg #[.int .i64 4, .bool yn]] w fun e w' => e = .returned (.tuple #[.agg ((⟨2, true⟩, fits ⟨xk, xn⟩ 2 && fits ⟨4, yn⟩ 2) : Kd × Bool).1.cells.toArray, .bool ((⟨2, true⟩, fits ⟨xk, xn⟩ 2 && fits ⟨4, yn⟩ 2) : Kd × Bool).2]) ∧ Below w.heap.size w w' := by
  have hx2 := Below.refl (((w.alloc (.cells #[.int .i64 xk, .bool xn] 167)).alloc (.cells #[.int .i64 4, .bool yn] 167)).alloc (.cells #[.int .i64 0, .bool false] 167)).heap.size (((w.alloc (.cells #[.int .i64 xk, .bool xn] 167)).alloc (.cells #[.int .i64 4, .bool yn] 167)).alloc (.cells #[.int .i64 0, .bool false] 167))
  obtain ⟨R, hR⟩ : ∃ R : Value, R = .tuple #[.agg ((⟨2, true⟩, fits ⟨xk, xn⟩ 2 && fits ⟨4, yn⟩ 2) : Kd × Bool).1.cells.toArray, .bool ((⟨2, true⟩, fits ⟨xk, xn⟩ 2 && fits ⟨4, yn⟩ 2) : Kd × Bool).2] := ⟨_, rfl⟩
  rw [← hR]
  have HR := hide hR
  clear hR
  cases xn <;> cases yn
  all_goals (
    go_enter Tryz.func224, Tryz.ntmps224
    go_wp2_with (first | (go_at_call 179; refine (fits_ref _ _ _ _).mono ?_; rintro e w1 ⟨rfl, hb1⟩; have hx2 := below_trans hx2 hb1; have c0 := (bcell hx2).1 w.heap.size 0 (by simp <;> omega); have c1 := (bcell hx2).1 w.heap.size 1 (by simp <;> omega); have e0 := (bcell hx2).1 (w.heap.size + 1) 0 (by simp <;> omega); have e1 := (bcell hx2).1 (w.heap.size + 1) 1 (by simp <;> omega); have d0 := (bcell hx2).1 (w.heap.size + 1 + 1) 0 (by simp <;> omega); have d1 := (bcell hx2).1 (w.heap.size + 1 + 1) 1 (by simp <;> omega); have F0 := (bcell hx2).2 (w.heap.size + 1 + 1) 0 (by simp <;> omega); have F1 := (bcell hx2).2 (w.heap.size + 1 + 1) 1 (by simp <;> omega); simp [go_sem] at c0 c1 e0 e1 d0 d1 F0 F1; have HB : Hid (Below w.heap.size w w1) := hide (below_trans (below_trans below_alloc2 below_alloc) hx2); have HS := hide (made_pair d0 d1); clear hb1))
    all_goals (
      refine bodyPost_ret (v := R) ?_ rfl ⟨rfl, by first | exact (HB.out.setCell (by simp <;> omega) _).setCell (by simp <;> omega) _ | exact below_trans below_alloc2 below_alloc⟩
      rw [HR.out]
      first | (obtain ⟨S0, S1⟩ := HS.out; simp [results, Tryz.results224, go_sem, S0, S1]) | simp [results, Tryz.results224, go_sem]
      all_goals (first | (simp [binKd, Kd.cells, fits]; done) | (simp [binKd, Kd.cells, fits]; intros; first | assumption | contradiction | simp_all))))
set_option maxHeartbeats 4000000 in
set_option maxRecDepth 100000 in
theorem diff_0n (yk : Int) (xn yn : Bool) (w : World) (q1 : (yk == 4) = false) :
    Calls Tryz.prog 224 #[.agg #[.int .i64 0, .bool xn], .agg #[.int .i64 yk, .bool yn]] w fun e w' => e = .returned (.tuple #[.agg ((⟨2, true⟩, fits ⟨0, xn⟩ 2 && fits ⟨yk, yn⟩ 2) : Kd × Bool).1.cells.toArray, .bool ((⟨2, true⟩, fits ⟨0, xn⟩ 2 && fits ⟨yk, yn⟩ 2) : Kd × Bool).2]) ∧ Below w.heap.size w w' := by
  have hx2 := Below.refl (((w.alloc (.cells #[.int .i64 0, .bool xn] 167)).alloc (.cells #[.int .i64 yk, .bool yn] 167)).alloc (.cells #[.int .i64 0, .bool false] 167)).heap.size (((w.alloc (.cells #[.int .i64 0, .bool xn] 167)).alloc (.cells #[.int .i64 yk, .bool yn] 167)).alloc (.cells #[.int .i64 0, .bool false] 167))
  obtain ⟨R, hR⟩ : ∃ R : Value, R = .tuple #[.agg ((⟨2, true⟩, fits ⟨0, xn⟩ 2 && fits ⟨yk, yn⟩ 2) : Kd × Bool).1.cells.toArray, .bool ((⟨2, true⟩, fits ⟨0, xn⟩ 2 && fits ⟨yk, yn⟩ 2) : Kd × Bool).2] := ⟨_, rfl⟩
  rw [← hR]
  have HR := hide hR
  clear hR
  cases xn <;> cases yn
  all_goals (
    go_enter Tryz.func224, Tryz.ntmps224
    go_wp2_with (first | (go_at_call 179; refine (fits_ref _ _ _ _).mono ?_; rintro e w1 ⟨rfl, hb1⟩; have hx2 := below_trans hx2 hb1; have c0 := (bcell hx2).1 w.heap.size 0 (by simp <;> omega); have c1 := (bcell hx2).1 w.heap.size 1 (by simp <;> omega); have e0 := (bcell hx2).1 (w.heap.size + 1) 0 (by simp <;> omega); have e1 := (bcell hx2).1 (w.heap.size + 1) 1 (by simp <;> omega); have d0 := (bcell hx2).1 (w.heap.size + 1 + 1) 0 (by simp <;> omega); have d1 := (bcell hx2).1 (w.heap.size + 1 + 1) 1 (by simp <;> omega); have F0 := (bcell hx2).2 (w.heap.size + 1 + 1) 0 (by simp <;> omega); have F1 := (bcell hx2).2 (w.heap.size + 1 + 1) 1 (by simp <;> omega); simp [go_sem] at c0 c1 e0 e1 d0 d1 F0 F1; have HB : Hid (Below w.heap.size w w1) := hide (below_trans (below_trans below_alloc2 below_alloc) hx2); have HS := hide (made_pair d0 d1); clear hb1))
    all_goals (
      refine bodyPost_ret (v := R) ?_ rfl ⟨rfl, by first | exact (HB.out.setCell (by simp <;> omega) _).setCell (by simp <;> omega) _ | exact below_trans below_alloc2 below_alloc⟩
      rw [HR.out]
      first | (obtain ⟨S0, S1⟩ := HS.out; simp [results, Tryz.results224, go_sem, S0, S1]) | simp [results, Tryz.results224, go_sem]
      all_goals (first | (simp [binKd, Kd.cells]; done) | (simp [binKd, Kd.cells]; intros; first | assumption | contradiction | simp_all))))
set_option maxHeartbeats 4000000 in
set_option maxRecDepth 100000 in
theorem diff_nn (xk : Int) (yk : Int) (xn yn : Bool) (w : World) (q1 : (xk == 4) = false) (q2 : (yk == 4) = false) (q3 : (xk == 0) = false) :
    Calls Tryz.prog 224 #[.agg #[.int .i64 xk, .bool xn], .agg #[.int .i64 yk, .bool yn]] w fun e w' => e = .returned (.tuple #[.agg ((⟨2, true⟩, fits ⟨xk, xn⟩ 2 && fits ⟨yk, yn⟩ 2) : Kd × Bool).1.cells.toArray, .bool ((⟨2, true⟩, fits ⟨xk, xn⟩ 2 && fits ⟨yk, yn⟩ 2) : Kd × Bool).2]) ∧ Below w.heap.size w w' := by
  have hx2 := Below.refl (((w.alloc (.cells #[.int .i64 xk, .bool xn] 167)).alloc (.cells #[.int .i64 yk, .bool yn] 167)).alloc (.cells #[.int .i64 0, .bool false] 167)).heap.size (((w.alloc (.cells #[.int .i64 xk, .bool xn] 167)).alloc (.cells #[.int .i64 yk, .bool yn] 167)).alloc (.cells #[.int .i64 0, .bool false] 167))
  obtain ⟨R, hR⟩ : ∃ R : Value, R = .tuple #[.agg ((⟨2, true⟩, fits ⟨xk, xn⟩ 2 && fits ⟨yk, yn⟩ 2) : Kd × Bool).1.cells.toArray, .bool ((⟨2, true⟩, fits ⟨xk, xn⟩ 2 && fits ⟨yk, yn⟩ 2) : Kd × Bool).2] := ⟨_, rfl⟩
  rw [← hR]
  have HR := hide hR
  clear hR
  cases xn <;> cases yn
  all_goals (
    go_enter Tryz.func224, Tryz.ntmps224
    go_wp2_with (first | (go_at_call 179; refine (fits_ref _ _ _ _).mono ?_; rintro e w1 ⟨rfl, hb1⟩; have hx2 := below_trans hx2 hb1; have c0 := (bcell hx2).1 w.heap.size 0 (by simp <;> omega); have c1 := (bcell hx2).1 w.heap.size 1 (by simp <;> omega); have e0 := (bcell hx2).1 (w.heap.size + 1) 0 (by simp <;> omega); have e1 := (bcell hx2).1 (w.heap.size + 1) 1 (by simp <;> omega); have d0 := (bcell hx2).1 (w.heap.size + 1 + 1) 0 (by simp <;> omega); have d1 := (bcell hx2).1 (w.heap.size + 1 + 1) 1 (by simp <;> omega); have F0 := (bcell hx2).2 (w.heap.size + 1 + 1) 0 (by simp <;> omega); have F1 := (bcell hx2).2 (w.heap.size + 1 + 1) 1 (by simp <;> omega); simp [go_sem] at c0 c1 e0 e1 d0 d1 F0 F1; have HB : Hid (Below w.heap.size w w1) := hide (below_trans (below_trans below_alloc2 below_alloc) hx2); have HS := hide (made_pair d0 d1); clear hb1))
    all_goals (
      refine bodyPost_ret (v := R) ?_ rfl ⟨rfl, by first | exact (HB.out.setCell (by simp <;> omega) _).setCell (by simp <;> omega) _ | exact below_trans below_alloc2 below_alloc⟩
      rw [HR.out]
      first | (obtain ⟨S0, S1⟩ := HS.out; simp [results, Tryz.results224, go_sem, S0, S1]) | simp [results, Tryz.results224, go_sem]
      all_goals (first | (simp [binKd, Kd.cells]; done) | (simp [binKd, Kd.cells]; intros; first | assumption | contradiction | simp_all))))
def KdRes (r : Kd × Bool) (e : Ending) : Prop := ∃ k : Kd, e = .returned (.tuple #[.agg k.cells.toArray, .bool r.2]) ∧ (r.2 = true → k = r.1)
theorem KdRes.mk {r s : Kd × Bool} {e : Ending} (h : e = .returned (.tuple #[.agg s.1.cells.toArray, .bool s.2])) (h2 : s.2 = r.2) (h1 : r.2 = true → s.1 = r.1) : KdRes r e := ⟨s.1, by rw [h, h2], h1⟩
theorem difference_ref (xk yk : Int) (xn yn : Bool) (w : World) :
    Calls Tryz.prog 224 #[.agg #[.int .i64 xk, .bool xn], .agg #[.int .i64 yk, .bool yn]] w fun e w' => KdRes (binKd 5 ⟨xk, xn⟩ ⟨yk, yn⟩) e ∧ Below w.heap.size w w' := by
  by_cases h1 : xk = 4
  · subst h1
    by_cases h2 : yk = 4
    · subst h2
      exact (diff_44 xn yn w).mono fun e w' h => ⟨KdRes.mk h.1 (by simp [binKd, fits]) (by simp [binKd, fits]), h.2⟩
    · exact (diff_4n yk xn yn w (by simpa using h2)).mono fun e w' h => ⟨KdRes.mk h.1 (by simp [binKd, h2]) (by simp [binKd, h2]), h.2⟩
  · by_cases h2 : yk = 4
    · subst h2
      by_cases h3 : xk = 0
      · subst h3
        exact (diff_04 xn yn w).mono fun e w' h => ⟨KdRes.mk h.1 (by simp [binKd, fits]) (by simp [binKd, fits]), h.2⟩
      · exact (diff_n4 xk xn yn w (by simpa using h1) (by simpa using h3)).mono fun e w' h => ⟨KdRes.mk h.1 (by simp [binKd, fits, h1, h3]) (by simp [binKd, fits, h1, h3]), h.2⟩
    · by_cases h3 : xk = 0
      · subst h3
        exact (diff_0n yk xn yn w (by simpa using h2)).mono fun e w' h => ⟨KdRes.mk h.1 (by simp [binKd, h2]) (by simp [binKd, h2]), h.2⟩
      exact (diff_nn xk yk xn yn w (by simpa using h1) (by simpa using h2) (by simpa using h3)).mono fun e w' h => ⟨KdRes.mk h.1 (by simp [binKd, h1, h2]) (by simp [binKd, h1, h2]), h.2⟩
end Go.Proofs.YtodapiholjeehaaGreatDoor
