/-
  scalar.typed: it returns opKd, operator by operator. (Printed by gen_typed.py.)
-/
import Derived.Test.YtggejcekmehocaaGreatDoorGai
import Derived.Test.YtggejcekmehocaaGreatDoorGam
namespace Go.Proofs.YtggejcekmehocaaGreatDoor
open Go.RowKit
set_option linter.unusedSimpArgs false
set_option linter.unusedVariables false
theorem made_two {w : World} {g : Nat} {u0 u1 : Value} (h0 : w.cell? ⟨g, 0, none⟩ = some u0) (h1 : w.cell? ⟨g, 1, none⟩ = some u1) :
    (∀ a, (w.setCell ⟨g, 0, none⟩ a).cell? ⟨g, 0, none⟩ = some a) ∧ (∀ a b, ((w.setCell ⟨g, 0, none⟩ a).setCell ⟨g, 1, none⟩ b).cell? ⟨g, 1, none⟩ = some b) :=
  ⟨fun a => set_same h0, fun a b => set_same (set_far h1 (.inr (by omega)))⟩
theorem kd_cells {w : World} {b off n c k : Nat} {xs : List Kd} (h : In w (some ⟨b, off, none⟩) n c xs) (hk : k < n) {x : Kd} (hx : xs[k]? = some x) :
    b < w.heap.size ∧ w.cell? ⟨b, off + k * 2, none⟩ = some (.int .i64 x.kind) ∧ w.cell? ⟨b, off + k * 2 + 1, none⟩ = some (.bool x.null) := by
  obtain ⟨b', off', y, e, hb, HY, f0, f1, f2⟩ := h.kd hk
  injection e with e
  injection e with e1 e2
  subst e1 e2
  have := (drop_get HY.out).1
  rw [hx] at this
  injection this with this
  subst this
  exact ⟨hb, f0, f1⟩
set_option maxHeartbeats 4000000 in
set_option maxRecDepth 100000 in
theorem typed_0 (kd nu ar : Int) (st nm : ByteArray) (w : World) (A : Option Addr) (c : Nat)  (hx : In w A 0 c ([] : List Kd)) :
    Calls Tryz.prog 173 #[.agg (ncells 0 kd nu st nm ar), .slice A 0 c] w fun e w' => e = .returned (.tuple #[.agg (opKd ⟨0, ⟨kd, nu, st⟩, nm, ar⟩ ([] : List Kd)).1.cells.toArray, .bool (opKd ⟨0, ⟨kd, nu, st⟩, nm, ar⟩ ([] : List Kd)).2]) ∧ Below w.heap.size w w' := by
  simp only [ncells]
  go_enter Tryz.func173, Tryz.ntmps173
  go_wp2_with (first | (go_at_call 208; refine (containsFunc_kd _ _ _ _ _ (hx.below below_alloc2)).mono ?_; rintro e w0 ⟨rfl, hb0⟩; have hacc := below_trans below_alloc2 hb0; have hx2 := hb0; obtain ⟨hc0, hf0⟩ := bcell hb0; have HS := hide (made_two (bat (b := w.heap.size + 1) (o := 0) (v := .int .i64 0) hx2 (by simp) (by simp [go_sem])) (bat (b := w.heap.size + 1) (o := 1) (v := .bool false) hx2 (by simp) (by simp [go_sem]))); clear hb0) | (go_at_call 210; refine (fits_any _ _ _ _).mono ?_; rintro e w1 ⟨rfl, hb1⟩; have hacc := below_trans hacc hb1; have hx2 := below_trans hx2 hb1; obtain ⟨hc1, hf1⟩ := bcell hx2; have HS := hide (made_two (bat (b := w.heap.size + 1) (o := 0) (v := .int .i64 0) hx2 (by simp) (by simp [go_sem])) (bat (b := w.heap.size + 1) (o := 1) (v := .bool false) hx2 (by simp) (by simp [go_sem]))); clear hb1))
  all_goals
    refine bodyPost_ret (v := .tuple #[.agg (opKd ⟨0, ⟨kd, nu, st⟩, nm, ar⟩ ([] : List Kd)).1.cells.toArray, .bool (opKd ⟨0, ⟨kd, nu, st⟩, nm, ar⟩ ([] : List Kd)).2]) ?_ rfl ?_
    · obtain ⟨S0, S1⟩ := HS.out
      simp [results, Tryz.results173, go_sem, S0, S1]
      go_light
      (try simp_all [opKd, unKd, binKd, Kd.cells])
    · refine ⟨rfl, ?_⟩
      first | exact hacc | exact (hacc.setCell (by simp) _).setCell (by simp) _
set_option maxHeartbeats 4000000 in
set_option maxRecDepth 100000 in
theorem typed_2 (kd nu ar : Int) (st nm : ByteArray) (w : World) (b off : Nat) (c : Nat) (x : Kd) (hx : In w (some ⟨b, off, none⟩) 1 c ([x] : List Kd)) :
    Calls Tryz.prog 173 #[.agg (ncells 2 kd nu st nm ar), .slice (some ⟨b, off, none⟩) 1 c] w fun e w' => e = .returned (.tuple #[.agg (opKd ⟨2, ⟨kd, nu, st⟩, nm, ar⟩ ([x] : List Kd)).1.cells.toArray, .bool (opKd ⟨2, ⟨kd, nu, st⟩, nm, ar⟩ ([x] : List Kd)).2]) ∧ Below w.heap.size w w' := by
  obtain ⟨hB, x0, x1⟩ := kd_cells hx (show 0 < 1 by omega) (x := x) rfl
  obtain ⟨xk, xn⟩ := x
  simp only [Nat.zero_mul, Nat.one_mul, Nat.add_zero, Nat.reduceMul] at x0 x1
  simp only [ncells]
  go_enter Tryz.func173, Tryz.ntmps173
  go_wp2_with (first | (go_at_call 208; refine (containsFunc_kd _ _ _ _ _ (hx.below below_alloc2)).mono ?_; rintro e w0 ⟨rfl, hb0⟩; have hacc := below_trans below_alloc2 hb0; have hx2 := hb0; obtain ⟨hc0, hf0⟩ := bcell hb0; have HS := hide (made_two (bat (b := w.heap.size + 1) (o := 0) (v := .int .i64 0) hx2 (by simp) (by simp [go_sem])) (bat (b := w.heap.size + 1) (o := 1) (v := .bool false) hx2 (by simp) (by simp [go_sem]))); have xa := bat hacc hB x0; have xb := bat hacc hB x1; clear hb0) | (go_at_call 210; refine (fits_any _ _ _ _).mono ?_; rintro e w1 ⟨rfl, hb1⟩; have hacc := below_trans hacc hb1; have hx2 := below_trans hx2 hb1; obtain ⟨hc1, hf1⟩ := bcell hx2; have HS := hide (made_two (bat (b := w.heap.size + 1) (o := 0) (v := .int .i64 0) hx2 (by simp) (by simp [go_sem])) (bat (b := w.heap.size + 1) (o := 1) (v := .bool false) hx2 (by simp) (by simp [go_sem]))); have xa := bat hacc hB x0; have xb := bat hacc hB x1; clear hb1))
  all_goals
    refine bodyPost_ret (v := .tuple #[.agg (opKd ⟨2, ⟨kd, nu, st⟩, nm, ar⟩ ([⟨xk, xn⟩] : List Kd)).1.cells.toArray, .bool (opKd ⟨2, ⟨kd, nu, st⟩, nm, ar⟩ ([⟨xk, xn⟩] : List Kd)).2]) ?_ rfl ?_
    · obtain ⟨S0, S1⟩ := HS.out
      simp [results, Tryz.results173, go_sem, S0, S1]
      go_light
      (try simp_all [opKd, unKd, binKd, Kd.cells])
    · refine ⟨rfl, ?_⟩
      first | exact hacc | exact (hacc.setCell (by simp) _).setCell (by simp) _
set_option maxHeartbeats 4000000 in
set_option maxRecDepth 100000 in
theorem typed_3 (kd nu ar : Int) (st nm : ByteArray) (w : World) (b off : Nat) (c : Nat) (x : Kd) (hx : In w (some ⟨b, off, none⟩) 1 c ([x] : List Kd)) :
    Calls Tryz.prog 173 #[.agg (ncells 3 kd nu st nm ar), .slice (some ⟨b, off, none⟩) 1 c] w fun e w' => e = .returned (.tuple #[.agg (opKd ⟨3, ⟨kd, nu, st⟩, nm, ar⟩ ([x] : List Kd)).1.cells.toArray, .bool (opKd ⟨3, ⟨kd, nu, st⟩, nm, ar⟩ ([x] : List Kd)).2]) ∧ Below w.heap.size w w' := by
  obtain ⟨hB, x0, x1⟩ := kd_cells hx (show 0 < 1 by omega) (x := x) rfl
  obtain ⟨xk, xn⟩ := x
  simp only [Nat.zero_mul, Nat.one_mul, Nat.add_zero, Nat.reduceMul] at x0 x1
  simp only [ncells]
  go_enter Tryz.func173, Tryz.ntmps173
  go_wp2_with (first | (go_at_call 208; refine (containsFunc_kd _ _ _ _ _ (hx.below below_alloc2)).mono ?_; rintro e w0 ⟨rfl, hb0⟩; have hacc := below_trans below_alloc2 hb0; have hx2 := hb0; obtain ⟨hc0, hf0⟩ := bcell hb0; have HS := hide (made_two (bat (b := w.heap.size + 1) (o := 0) (v := .int .i64 0) hx2 (by simp) (by simp [go_sem])) (bat (b := w.heap.size + 1) (o := 1) (v := .bool false) hx2 (by simp) (by simp [go_sem]))); have xa := bat hacc hB x0; have xb := bat hacc hB x1; clear hb0) | (go_at_call 210; refine (fits_any _ _ _ _).mono ?_; rintro e w1 ⟨rfl, hb1⟩; have hacc := below_trans hacc hb1; have hx2 := below_trans hx2 hb1; obtain ⟨hc1, hf1⟩ := bcell hx2; have HS := hide (made_two (bat (b := w.heap.size + 1) (o := 0) (v := .int .i64 0) hx2 (by simp) (by simp [go_sem])) (bat (b := w.heap.size + 1) (o := 1) (v := .bool false) hx2 (by simp) (by simp [go_sem]))); have xa := bat hacc hB x0; have xb := bat hacc hB x1; clear hb1))
  all_goals
    refine bodyPost_ret (v := .tuple #[.agg (opKd ⟨3, ⟨kd, nu, st⟩, nm, ar⟩ ([⟨xk, xn⟩] : List Kd)).1.cells.toArray, .bool (opKd ⟨3, ⟨kd, nu, st⟩, nm, ar⟩ ([⟨xk, xn⟩] : List Kd)).2]) ?_ rfl ?_
    · obtain ⟨S0, S1⟩ := HS.out
      simp [results, Tryz.results173, go_sem, S0, S1]
      go_light
      (try simp_all [opKd, unKd, binKd, Kd.cells])
    · refine ⟨rfl, ?_⟩
      first | exact hacc | exact (hacc.setCell (by simp) _).setCell (by simp) _
set_option maxHeartbeats 4000000 in
set_option maxRecDepth 100000 in
theorem typed_4 (kd nu ar : Int) (st nm : ByteArray) (w : World) (b off : Nat) (c : Nat) (x : Kd) (y : Kd) (hx : In w (some ⟨b, off, none⟩) 2 c ([x, y] : List Kd)) :
    Calls Tryz.prog 173 #[.agg (ncells 4 kd nu st nm ar), .slice (some ⟨b, off, none⟩) 2 c] w fun e w' => e = .returned (.tuple #[.agg (opKd ⟨4, ⟨kd, nu, st⟩, nm, ar⟩ ([x, y] : List Kd)).1.cells.toArray, .bool (opKd ⟨4, ⟨kd, nu, st⟩, nm, ar⟩ ([x, y] : List Kd)).2]) ∧ Below w.heap.size w w' := by
  obtain ⟨hB, x0, x1⟩ := kd_cells hx (show 0 < 2 by omega) (x := x) rfl
  obtain ⟨xk, xn⟩ := x
  obtain ⟨hB, y0, y1⟩ := kd_cells hx (show 1 < 2 by omega) (x := y) rfl
  obtain ⟨yk, yn⟩ := y
  simp only [Nat.zero_mul, Nat.one_mul, Nat.add_zero, Nat.reduceMul] at x0 x1 y0 y1
  simp only [ncells]
  go_enter Tryz.func173, Tryz.ntmps173
  go_wp2_with (first | (go_at_call 208; refine (containsFunc_kd _ _ _ _ _ (hx.below below_alloc2)).mono ?_; rintro e w0 ⟨rfl, hb0⟩; have hacc := below_trans below_alloc2 hb0; have hx2 := hb0; obtain ⟨hc0, hf0⟩ := bcell hb0; have HS := hide (made_two (bat (b := w.heap.size + 1) (o := 0) (v := .int .i64 0) hx2 (by simp) (by simp [go_sem])) (bat (b := w.heap.size + 1) (o := 1) (v := .bool false) hx2 (by simp) (by simp [go_sem]))); have xa := bat hacc hB x0; have xb := bat hacc hB x1; have ya := bat hacc hB y0; have yb := bat hacc hB y1; clear hb0) | (go_at_call 210; refine (fits_any _ _ _ _).mono ?_; rintro e w1 ⟨rfl, hb1⟩; have hacc := below_trans hacc hb1; have hx2 := below_trans hx2 hb1; obtain ⟨hc1, hf1⟩ := bcell hx2; have HS := hide (made_two (bat (b := w.heap.size + 1) (o := 0) (v := .int .i64 0) hx2 (by simp) (by simp [go_sem])) (bat (b := w.heap.size + 1) (o := 1) (v := .bool false) hx2 (by simp) (by simp [go_sem]))); have xa := bat hacc hB x0; have xb := bat hacc hB x1; have ya := bat hacc hB y0; have yb := bat hacc hB y1; clear hb1))
  all_goals
    refine bodyPost_ret (v := .tuple #[.agg (opKd ⟨4, ⟨kd, nu, st⟩, nm, ar⟩ ([⟨xk, xn⟩, ⟨yk, yn⟩] : List Kd)).1.cells.toArray, .bool (opKd ⟨4, ⟨kd, nu, st⟩, nm, ar⟩ ([⟨xk, xn⟩, ⟨yk, yn⟩] : List Kd)).2]) ?_ rfl ?_
    · obtain ⟨S0, S1⟩ := HS.out
      simp [results, Tryz.results173, go_sem, S0, S1]
      go_light
      (try simp_all [opKd, unKd, binKd, Kd.cells])
    · refine ⟨rfl, ?_⟩
      first | exact hacc | exact (hacc.setCell (by simp) _).setCell (by simp) _
set_option maxHeartbeats 4000000 in
set_option maxRecDepth 100000 in
theorem typed_5 (kd nu ar : Int) (st nm : ByteArray) (w : World) (b off : Nat) (c : Nat) (x : Kd) (y : Kd) (hx : In w (some ⟨b, off, none⟩) 2 c ([x, y] : List Kd)) :
    Calls Tryz.prog 173 #[.agg (ncells 5 kd nu st nm ar), .slice (some ⟨b, off, none⟩) 2 c] w fun e w' => e = .returned (.tuple #[.agg (opKd ⟨5, ⟨kd, nu, st⟩, nm, ar⟩ ([x, y] : List Kd)).1.cells.toArray, .bool (opKd ⟨5, ⟨kd, nu, st⟩, nm, ar⟩ ([x, y] : List Kd)).2]) ∧ Below w.heap.size w w' := by
  obtain ⟨hB, x0, x1⟩ := kd_cells hx (show 0 < 2 by omega) (x := x) rfl
  obtain ⟨xk, xn⟩ := x
  obtain ⟨hB, y0, y1⟩ := kd_cells hx (show 1 < 2 by omega) (x := y) rfl
  obtain ⟨yk, yn⟩ := y
  simp only [Nat.zero_mul, Nat.one_mul, Nat.add_zero, Nat.reduceMul] at x0 x1 y0 y1
  simp only [ncells]
  go_enter Tryz.func173, Tryz.ntmps173
  go_wp2_with (first | (go_at_call 208; refine (containsFunc_kd _ _ _ _ _ (hx.below below_alloc2)).mono ?_; rintro e w0 ⟨rfl, hb0⟩; have hacc := below_trans below_alloc2 hb0; have hx2 := hb0; obtain ⟨hc0, hf0⟩ := bcell hb0; have HS := hide (made_two (bat (b := w.heap.size + 1) (o := 0) (v := .int .i64 0) hx2 (by simp) (by simp [go_sem])) (bat (b := w.heap.size + 1) (o := 1) (v := .bool false) hx2 (by simp) (by simp [go_sem]))); have xa := bat hacc hB x0; have xb := bat hacc hB x1; have ya := bat hacc hB y0; have yb := bat hacc hB y1; clear hb0) | (go_at_call 210; refine (fits_any _ _ _ _).mono ?_; rintro e w1 ⟨rfl, hb1⟩; have hacc := below_trans hacc hb1; have hx2 := below_trans hx2 hb1; obtain ⟨hc1, hf1⟩ := bcell hx2; have HS := hide (made_two (bat (b := w.heap.size + 1) (o := 0) (v := .int .i64 0) hx2 (by simp) (by simp [go_sem])) (bat (b := w.heap.size + 1) (o := 1) (v := .bool false) hx2 (by simp) (by simp [go_sem]))); have xa := bat hacc hB x0; have xb := bat hacc hB x1; have ya := bat hacc hB y0; have yb := bat hacc hB y1; clear hb1))
  all_goals
    refine bodyPost_ret (v := .tuple #[.agg (opKd ⟨5, ⟨kd, nu, st⟩, nm, ar⟩ ([⟨xk, xn⟩, ⟨yk, yn⟩] : List Kd)).1.cells.toArray, .bool (opKd ⟨5, ⟨kd, nu, st⟩, nm, ar⟩ ([⟨xk, xn⟩, ⟨yk, yn⟩] : List Kd)).2]) ?_ rfl ?_
    · obtain ⟨S0, S1⟩ := HS.out
      simp [results, Tryz.results173, go_sem, S0, S1]
      go_light
      (try simp_all [opKd, unKd, binKd, Kd.cells])
    · refine ⟨rfl, ?_⟩
      first | exact hacc | exact (hacc.setCell (by simp) _).setCell (by simp) _
set_option maxHeartbeats 4000000 in
set_option maxRecDepth 100000 in
theorem typed_6 (kd nu ar : Int) (st nm : ByteArray) (w : World) (b off : Nat) (c : Nat) (x : Kd) (y : Kd) (hx : In w (some ⟨b, off, none⟩) 2 c ([x, y] : List Kd)) :
    Calls Tryz.prog 173 #[.agg (ncells 6 kd nu st nm ar), .slice (some ⟨b, off, none⟩) 2 c] w fun e w' => e = .returned (.tuple #[.agg (opKd ⟨6, ⟨kd, nu, st⟩, nm, ar⟩ ([x, y] : List Kd)).1.cells.toArray, .bool (opKd ⟨6, ⟨kd, nu, st⟩, nm, ar⟩ ([x, y] : List Kd)).2]) ∧ Below w.heap.size w w' := by
  obtain ⟨hB, x0, x1⟩ := kd_cells hx (show 0 < 2 by omega) (x := x) rfl
  obtain ⟨xk, xn⟩ := x
  obtain ⟨hB, y0, y1⟩ := kd_cells hx (show 1 < 2 by omega) (x := y) rfl
  obtain ⟨yk, yn⟩ := y
  simp only [Nat.zero_mul, Nat.one_mul, Nat.add_zero, Nat.reduceMul] at x0 x1 y0 y1
  simp only [ncells]
  go_enter Tryz.func173, Tryz.ntmps173
  go_wp2_with (first | (go_at_call 208; refine (containsFunc_kd _ _ _ _ _ (hx.below below_alloc2)).mono ?_; rintro e w0 ⟨rfl, hb0⟩; have hacc := below_trans below_alloc2 hb0; have hx2 := hb0; obtain ⟨hc0, hf0⟩ := bcell hb0; have HS := hide (made_two (bat (b := w.heap.size + 1) (o := 0) (v := .int .i64 0) hx2 (by simp) (by simp [go_sem])) (bat (b := w.heap.size + 1) (o := 1) (v := .bool false) hx2 (by simp) (by simp [go_sem]))); have xa := bat hacc hB x0; have xb := bat hacc hB x1; have ya := bat hacc hB y0; have yb := bat hacc hB y1; clear hb0) | (go_at_call 210; refine (fits_any _ _ _ _).mono ?_; rintro e w1 ⟨rfl, hb1⟩; have hacc := below_trans hacc hb1; have hx2 := below_trans hx2 hb1; obtain ⟨hc1, hf1⟩ := bcell hx2; have HS := hide (made_two (bat (b := w.heap.size + 1) (o := 0) (v := .int .i64 0) hx2 (by simp) (by simp [go_sem])) (bat (b := w.heap.size + 1) (o := 1) (v := .bool false) hx2 (by simp) (by simp [go_sem]))); have xa := bat hacc hB x0; have xb := bat hacc hB x1; have ya := bat hacc hB y0; have yb := bat hacc hB y1; clear hb1))
  all_goals
    refine bodyPost_ret (v := .tuple #[.agg (opKd ⟨6, ⟨kd, nu, st⟩, nm, ar⟩ ([⟨xk, xn⟩, ⟨yk, yn⟩] : List Kd)).1.cells.toArray, .bool (opKd ⟨6, ⟨kd, nu, st⟩, nm, ar⟩ ([⟨xk, xn⟩, ⟨yk, yn⟩] : List Kd)).2]) ?_ rfl ?_
    · obtain ⟨S0, S1⟩ := HS.out
      simp [results, Tryz.results173, go_sem, S0, S1]
      go_light
      (try simp_all [opKd, unKd, binKd, Kd.cells])
    · refine ⟨rfl, ?_⟩
      first | exact hacc | exact (hacc.setCell (by simp) _).setCell (by simp) _
set_option maxHeartbeats 4000000 in
set_option maxRecDepth 100000 in
theorem typed_7 (kd nu ar : Int) (st nm : ByteArray) (w : World) (b off : Nat) (c : Nat) (x : Kd) (y : Kd) (hx : In w (some ⟨b, off, none⟩) 2 c ([x, y] : List Kd)) :
    Calls Tryz.prog 173 #[.agg (ncells 7 kd nu st nm ar), .slice (some ⟨b, off, none⟩) 2 c] w fun e w' => e = .returned (.tuple #[.agg (opKd ⟨7, ⟨kd, nu, st⟩, nm, ar⟩ ([x, y] : List Kd)).1.cells.toArray, .bool (opKd ⟨7, ⟨kd, nu, st⟩, nm, ar⟩ ([x, y] : List Kd)).2]) ∧ Below w.heap.size w w' := by
  obtain ⟨hB, x0, x1⟩ := kd_cells hx (show 0 < 2 by omega) (x := x) rfl
  obtain ⟨xk, xn⟩ := x
  obtain ⟨hB, y0, y1⟩ := kd_cells hx (show 1 < 2 by omega) (x := y) rfl
  obtain ⟨yk, yn⟩ := y
  simp only [Nat.zero_mul, Nat.one_mul, Nat.add_zero, Nat.reduceMul] at x0 x1 y0 y1
  simp only [ncells]
  go_enter Tryz.func173, Tryz.ntmps173
  go_wp2_with (first | (go_at_call 208; refine (containsFunc_kd _ _ _ _ _ (hx.below below_alloc2)).mono ?_; rintro e w0 ⟨rfl, hb0⟩; have hacc := below_trans below_alloc2 hb0; have hx2 := hb0; obtain ⟨hc0, hf0⟩ := bcell hb0; have HS := hide (made_two (bat (b := w.heap.size + 1) (o := 0) (v := .int .i64 0) hx2 (by simp) (by simp [go_sem])) (bat (b := w.heap.size + 1) (o := 1) (v := .bool false) hx2 (by simp) (by simp [go_sem]))); have xa := bat hacc hB x0; have xb := bat hacc hB x1; have ya := bat hacc hB y0; have yb := bat hacc hB y1; clear hb0) | (go_at_call 210; refine (fits_any _ _ _ _).mono ?_; rintro e w1 ⟨rfl, hb1⟩; have hacc := below_trans hacc hb1; have hx2 := below_trans hx2 hb1; obtain ⟨hc1, hf1⟩ := bcell hx2; have HS := hide (made_two (bat (b := w.heap.size + 1) (o := 0) (v := .int .i64 0) hx2 (by simp) (by simp [go_sem])) (bat (b := w.heap.size + 1) (o := 1) (v := .bool false) hx2 (by simp) (by simp [go_sem]))); have xa := bat hacc hB x0; have xb := bat hacc hB x1; have ya := bat hacc hB y0; have yb := bat hacc hB y1; clear hb1))
  all_goals
    refine bodyPost_ret (v := .tuple #[.agg (opKd ⟨7, ⟨kd, nu, st⟩, nm, ar⟩ ([⟨xk, xn⟩, ⟨yk, yn⟩] : List Kd)).1.cells.toArray, .bool (opKd ⟨7, ⟨kd, nu, st⟩, nm, ar⟩ ([⟨xk, xn⟩, ⟨yk, yn⟩] : List Kd)).2]) ?_ rfl ?_
    · obtain ⟨S0, S1⟩ := HS.out
      simp [results, Tryz.results173, go_sem, S0, S1]
      go_light
      (try simp_all [opKd, unKd, binKd, Kd.cells])
    · refine ⟨rfl, ?_⟩
      first | exact hacc | exact (hacc.setCell (by simp) _).setCell (by simp) _
set_option maxHeartbeats 4000000 in
set_option maxRecDepth 100000 in
theorem typed_8 (kd nu ar : Int) (st nm : ByteArray) (w : World) (b off : Nat) (c : Nat) (x : Kd) (y : Kd) (hx : In w (some ⟨b, off, none⟩) 2 c ([x, y] : List Kd)) :
    Calls Tryz.prog 173 #[.agg (ncells 8 kd nu st nm ar), .slice (some ⟨b, off, none⟩) 2 c] w fun e w' => e = .returned (.tuple #[.agg (opKd ⟨8, ⟨kd, nu, st⟩, nm, ar⟩ ([x, y] : List Kd)).1.cells.toArray, .bool (opKd ⟨8, ⟨kd, nu, st⟩, nm, ar⟩ ([x, y] : List Kd)).2]) ∧ Below w.heap.size w w' := by
  obtain ⟨hB, x0, x1⟩ := kd_cells hx (show 0 < 2 by omega) (x := x) rfl
  obtain ⟨xk, xn⟩ := x
  obtain ⟨hB, y0, y1⟩ := kd_cells hx (show 1 < 2 by omega) (x := y) rfl
  obtain ⟨yk, yn⟩ := y
  simp only [Nat.zero_mul, Nat.one_mul, Nat.add_zero, Nat.reduceMul] at x0 x1 y0 y1
  simp only [ncells]
  go_enter Tryz.func173, Tryz.ntmps173
  go_wp2_with (first | (go_at_call 208; refine (containsFunc_kd _ _ _ _ _ (hx.below below_alloc2)).mono ?_; rintro e w0 ⟨rfl, hb0⟩; have hacc := below_trans below_alloc2 hb0; have hx2 := hb0; obtain ⟨hc0, hf0⟩ := bcell hb0; have HS := hide (made_two (bat (b := w.heap.size + 1) (o := 0) (v := .int .i64 0) hx2 (by simp) (by simp [go_sem])) (bat (b := w.heap.size + 1) (o := 1) (v := .bool false) hx2 (by simp) (by simp [go_sem]))); have xa := bat hacc hB x0; have xb := bat hacc hB x1; have ya := bat hacc hB y0; have yb := bat hacc hB y1; clear hb0) | (go_at_call 210; refine (fits_any _ _ _ _).mono ?_; rintro e w1 ⟨rfl, hb1⟩; have hacc := below_trans hacc hb1; have hx2 := below_trans hx2 hb1; obtain ⟨hc1, hf1⟩ := bcell hx2; have HS := hide (made_two (bat (b := w.heap.size + 1) (o := 0) (v := .int .i64 0) hx2 (by simp) (by simp [go_sem])) (bat (b := w.heap.size + 1) (o := 1) (v := .bool false) hx2 (by simp) (by simp [go_sem]))); have xa := bat hacc hB x0; have xb := bat hacc hB x1; have ya := bat hacc hB y0; have yb := bat hacc hB y1; clear hb1))
  all_goals
    refine bodyPost_ret (v := .tuple #[.agg (opKd ⟨8, ⟨kd, nu, st⟩, nm, ar⟩ ([⟨xk, xn⟩, ⟨yk, yn⟩] : List Kd)).1.cells.toArray, .bool (opKd ⟨8, ⟨kd, nu, st⟩, nm, ar⟩ ([⟨xk, xn⟩, ⟨yk, yn⟩] : List Kd)).2]) ?_ rfl ?_
    · obtain ⟨S0, S1⟩ := HS.out
      simp [results, Tryz.results173, go_sem, S0, S1]
      go_light
      (try simp_all [opKd, unKd, binKd, Kd.cells])
    · refine ⟨rfl, ?_⟩
      first | exact hacc | exact (hacc.setCell (by simp) _).setCell (by simp) _
set_option maxHeartbeats 4000000 in
set_option maxRecDepth 100000 in
theorem typed_9 (kd nu ar : Int) (st nm : ByteArray) (w : World) (b off : Nat) (c : Nat) (x : Kd) (y : Kd) (hx : In w (some ⟨b, off, none⟩) 2 c ([x, y] : List Kd)) :
    Calls Tryz.prog 173 #[.agg (ncells 9 kd nu st nm ar), .slice (some ⟨b, off, none⟩) 2 c] w fun e w' => e = .returned (.tuple #[.agg (opKd ⟨9, ⟨kd, nu, st⟩, nm, ar⟩ ([x, y] : List Kd)).1.cells.toArray, .bool (opKd ⟨9, ⟨kd, nu, st⟩, nm, ar⟩ ([x, y] : List Kd)).2]) ∧ Below w.heap.size w w' := by
  obtain ⟨hB, x0, x1⟩ := kd_cells hx (show 0 < 2 by omega) (x := x) rfl
  obtain ⟨xk, xn⟩ := x
  obtain ⟨hB, y0, y1⟩ := kd_cells hx (show 1 < 2 by omega) (x := y) rfl
  obtain ⟨yk, yn⟩ := y
  simp only [Nat.zero_mul, Nat.one_mul, Nat.add_zero, Nat.reduceMul] at x0 x1 y0 y1
  simp only [ncells]
  go_enter Tryz.func173, Tryz.ntmps173
  go_wp2_with (first | (go_at_call 208; refine (containsFunc_kd _ _ _ _ _ (hx.below below_alloc2)).mono ?_; rintro e w0 ⟨rfl, hb0⟩; have hacc := below_trans below_alloc2 hb0; have hx2 := hb0; obtain ⟨hc0, hf0⟩ := bcell hb0; have HS := hide (made_two (bat (b := w.heap.size + 1) (o := 0) (v := .int .i64 0) hx2 (by simp) (by simp [go_sem])) (bat (b := w.heap.size + 1) (o := 1) (v := .bool false) hx2 (by simp) (by simp [go_sem]))); have xa := bat hacc hB x0; have xb := bat hacc hB x1; have ya := bat hacc hB y0; have yb := bat hacc hB y1; clear hb0) | (go_at_call 210; refine (fits_any _ _ _ _).mono ?_; rintro e w1 ⟨rfl, hb1⟩; have hacc := below_trans hacc hb1; have hx2 := below_trans hx2 hb1; obtain ⟨hc1, hf1⟩ := bcell hx2; have HS := hide (made_two (bat (b := w.heap.size + 1) (o := 0) (v := .int .i64 0) hx2 (by simp) (by simp [go_sem])) (bat (b := w.heap.size + 1) (o := 1) (v := .bool false) hx2 (by simp) (by simp [go_sem]))); have xa := bat hacc hB x0; have xb := bat hacc hB x1; have ya := bat hacc hB y0; have yb := bat hacc hB y1; clear hb1))
  all_goals
    refine bodyPost_ret (v := .tuple #[.agg (opKd ⟨9, ⟨kd, nu, st⟩, nm, ar⟩ ([⟨xk, xn⟩, ⟨yk, yn⟩] : List Kd)).1.cells.toArray, .bool (opKd ⟨9, ⟨kd, nu, st⟩, nm, ar⟩ ([⟨xk, xn⟩, ⟨yk, yn⟩] : List Kd)).2]) ?_ rfl ?_
    · obtain ⟨S0, S1⟩ := HS.out
      simp [results, Tryz.results173, go_sem, S0, S1]
      go_light
      (try simp_all [opKd, unKd, binKd, Kd.cells])
    · refine ⟨rfl, ?_⟩
      first | exact hacc | exact (hacc.setCell (by simp) _).setCell (by simp) _
set_option maxHeartbeats 4000000 in
set_option maxRecDepth 100000 in
theorem typed_10 (kd nu ar : Int) (st nm : ByteArray) (w : World) (b off : Nat) (c : Nat) (x : Kd) (y : Kd) (hx : In w (some ⟨b, off, none⟩) 2 c ([x, y] : List Kd)) :
    Calls Tryz.prog 173 #[.agg (ncells 10 kd nu st nm ar), .slice (some ⟨b, off, none⟩) 2 c] w fun e w' => e = .returned (.tuple #[.agg (opKd ⟨10, ⟨kd, nu, st⟩, nm, ar⟩ ([x, y] : List Kd)).1.cells.toArray, .bool (opKd ⟨10, ⟨kd, nu, st⟩, nm, ar⟩ ([x, y] : List Kd)).2]) ∧ Below w.heap.size w w' := by
  obtain ⟨hB, x0, x1⟩ := kd_cells hx (show 0 < 2 by omega) (x := x) rfl
  obtain ⟨xk, xn⟩ := x
  obtain ⟨hB, y0, y1⟩ := kd_cells hx (show 1 < 2 by omega) (x := y) rfl
  obtain ⟨yk, yn⟩ := y
  simp only [Nat.zero_mul, Nat.one_mul, Nat.add_zero, Nat.reduceMul] at x0 x1 y0 y1
  simp only [ncells]
  go_enter Tryz.func173, Tryz.ntmps173
  go_wp2_with (go_at_call 208; refine (containsFunc_kd _ _ _ _ _ (hx.below below_alloc2)).mono ?_; rintro e w0 ⟨rfl, hb0⟩; have hacc := below_trans below_alloc2 hb0; have hx2 := hb0; obtain ⟨hc0, hf0⟩ := bcell hb0; have HS := hide (made_two (bat (b := w.heap.size + 1) (o := 0) (v := .int .i64 0) hx2 (by simp) (by simp [go_sem])) (bat (b := w.heap.size + 1) (o := 1) (v := .bool false) hx2 (by simp) (by simp [go_sem]))); have xa := bat hacc hB x0; have xb := bat hacc hB x1; have ya := bat hacc hB y0; have yb := bat hacc hB y1; clear hb0)
  have hB0 := Nat.lt_of_lt_of_le hB hacc.size
  go_region_held3 (fun V => V.cell? ⟨b, off, none⟩ = some (.int .i64 xk) ∧ V.cell? ⟨b, off + 1, none⟩ = some (.bool xn) ∧ V.cell? ⟨b, off + 2, none⟩ = some (.int .i64 yk) ∧ V.cell? ⟨b, off + 2 + 1, none⟩ = some (.bool yn)) (first | exact ⟨xa, xb, ya, yb⟩ | (have hq := below_undrew hb1; exact ⟨bat hq hB0 xa, bat hq hB0 xb, bat hq hB0 ya, bat hq hB0 yb⟩)) (first | (go_at_call 211; refine (common_any _ _ _ _ _).mono ?_; rintro e w1 ⟨rfl, hb1⟩))
  have hq := below_undrew hb1
  have hacc := below_trans hacc hq
  have hx2 := below_trans hx2 hq
  clear hq hb1
  obtain ⟨hc1, hf1⟩ := bcell hx2
  have HS := hide (made_two (bat (b := w.heap.size + 1) (o := 0) (v := .int .i64 0) hx2 (by simp) (by simp [go_sem])) (bat (b := w.heap.size + 1) (o := 1) (v := .bool false) hx2 (by simp) (by simp [go_sem])))
  have xa := bat hacc hB x0
  have xb := bat hacc hB x1
  have ya := bat hacc hB y0
  have yb := bat hacc hB y1
  go_wp2
  all_goals
    refine bodyPost_ret (v := .tuple #[.agg (opKd ⟨10, ⟨kd, nu, st⟩, nm, ar⟩ ([⟨xk, xn⟩, ⟨yk, yn⟩] : List Kd)).1.cells.toArray, .bool (opKd ⟨10, ⟨kd, nu, st⟩, nm, ar⟩ ([⟨xk, xn⟩, ⟨yk, yn⟩] : List Kd)).2]) ?_ rfl ?_
    · obtain ⟨S0, S1⟩ := HS.out
      simp [results, Tryz.results173, go_sem, S0, S1]
      go_light
      (try simp_all [opKd, unKd, binKd, Kd.cells])
    · refine ⟨rfl, ?_⟩
      first | exact hacc | exact (hacc.setCell (by simp) _).setCell (by simp) _
set_option maxHeartbeats 4000000 in
set_option maxRecDepth 100000 in
theorem typed_11 (kd nu ar : Int) (st nm : ByteArray) (w : World) (b off : Nat) (c : Nat) (x : Kd) (y : Kd) (hx : In w (some ⟨b, off, none⟩) 2 c ([x, y] : List Kd)) :
    Calls Tryz.prog 173 #[.agg (ncells 11 kd nu st nm ar), .slice (some ⟨b, off, none⟩) 2 c] w fun e w' => e = .returned (.tuple #[.agg (opKd ⟨11, ⟨kd, nu, st⟩, nm, ar⟩ ([x, y] : List Kd)).1.cells.toArray, .bool (opKd ⟨11, ⟨kd, nu, st⟩, nm, ar⟩ ([x, y] : List Kd)).2]) ∧ Below w.heap.size w w' := by
  obtain ⟨hB, x0, x1⟩ := kd_cells hx (show 0 < 2 by omega) (x := x) rfl
  obtain ⟨xk, xn⟩ := x
  obtain ⟨hB, y0, y1⟩ := kd_cells hx (show 1 < 2 by omega) (x := y) rfl
  obtain ⟨yk, yn⟩ := y
  simp only [Nat.zero_mul, Nat.one_mul, Nat.add_zero, Nat.reduceMul] at x0 x1 y0 y1
  simp only [ncells]
  go_enter Tryz.func173, Tryz.ntmps173
  go_wp2_with (go_at_call 208; refine (containsFunc_kd _ _ _ _ _ (hx.below below_alloc2)).mono ?_; rintro e w0 ⟨rfl, hb0⟩; have hacc := below_trans below_alloc2 hb0; have hx2 := hb0; obtain ⟨hc0, hf0⟩ := bcell hb0; have HS := hide (made_two (bat (b := w.heap.size + 1) (o := 0) (v := .int .i64 0) hx2 (by simp) (by simp [go_sem])) (bat (b := w.heap.size + 1) (o := 1) (v := .bool false) hx2 (by simp) (by simp [go_sem]))); have xa := bat hacc hB x0; have xb := bat hacc hB x1; have ya := bat hacc hB y0; have yb := bat hacc hB y1; clear hb0)
  have hB0 := Nat.lt_of_lt_of_le hB hacc.size
  go_region_held3 (fun V => V.cell? ⟨b, off, none⟩ = some (.int .i64 xk) ∧ V.cell? ⟨b, off + 1, none⟩ = some (.bool xn) ∧ V.cell? ⟨b, off + 2, none⟩ = some (.int .i64 yk) ∧ V.cell? ⟨b, off + 2 + 1, none⟩ = some (.bool yn)) (first | exact ⟨xa, xb, ya, yb⟩ | (have hq := below_undrew hb1; exact ⟨bat hq hB0 xa, bat hq hB0 xb, bat hq hB0 ya, bat hq hB0 yb⟩)) (first | (go_at_call 211; refine (common_any _ _ _ _ _).mono ?_; rintro e w1 ⟨rfl, hb1⟩))
  have hq := below_undrew hb1
  have hacc := below_trans hacc hq
  have hx2 := below_trans hx2 hq
  clear hq hb1
  obtain ⟨hc1, hf1⟩ := bcell hx2
  have HS := hide (made_two (bat (b := w.heap.size + 1) (o := 0) (v := .int .i64 0) hx2 (by simp) (by simp [go_sem])) (bat (b := w.heap.size + 1) (o := 1) (v := .bool false) hx2 (by simp) (by simp [go_sem])))
  have xa := bat hacc hB x0
  have xb := bat hacc hB x1
  have ya := bat hacc hB y0
  have yb := bat hacc hB y1
  go_wp2
  all_goals
    refine bodyPost_ret (v := .tuple #[.agg (opKd ⟨11, ⟨kd, nu, st⟩, nm, ar⟩ ([⟨xk, xn⟩, ⟨yk, yn⟩] : List Kd)).1.cells.toArray, .bool (opKd ⟨11, ⟨kd, nu, st⟩, nm, ar⟩ ([⟨xk, xn⟩, ⟨yk, yn⟩] : List Kd)).2]) ?_ rfl ?_
    · obtain ⟨S0, S1⟩ := HS.out
      simp [results, Tryz.results173, go_sem, S0, S1]
      go_light
      (try simp_all [opKd, unKd, binKd, Kd.cells])
    · refine ⟨rfl, ?_⟩
      first | exact hacc | exact (hacc.setCell (by simp) _).setCell (by simp) _
set_option maxHeartbeats 4000000 in
set_option maxRecDepth 100000 in
theorem typed_12 (kd nu ar : Int) (st nm : ByteArray) (w : World) (b off : Nat) (c : Nat) (x : Kd) (y : Kd) (hx : In w (some ⟨b, off, none⟩) 2 c ([x, y] : List Kd)) :
    Calls Tryz.prog 173 #[.agg (ncells 12 kd nu st nm ar), .slice (some ⟨b, off, none⟩) 2 c] w fun e w' => e = .returned (.tuple #[.agg (opKd ⟨12, ⟨kd, nu, st⟩, nm, ar⟩ ([x, y] : List Kd)).1.cells.toArray, .bool (opKd ⟨12, ⟨kd, nu, st⟩, nm, ar⟩ ([x, y] : List Kd)).2]) ∧ Below w.heap.size w w' := by
  obtain ⟨hB, x0, x1⟩ := kd_cells hx (show 0 < 2 by omega) (x := x) rfl
  obtain ⟨xk, xn⟩ := x
  obtain ⟨hB, y0, y1⟩ := kd_cells hx (show 1 < 2 by omega) (x := y) rfl
  obtain ⟨yk, yn⟩ := y
  simp only [Nat.zero_mul, Nat.one_mul, Nat.add_zero, Nat.reduceMul] at x0 x1 y0 y1
  simp only [ncells]
  go_enter Tryz.func173, Tryz.ntmps173
  go_wp2_with (go_at_call 208; refine (containsFunc_kd _ _ _ _ _ (hx.below below_alloc2)).mono ?_; rintro e w0 ⟨rfl, hb0⟩; have hacc := below_trans below_alloc2 hb0; have hx2 := hb0; obtain ⟨hc0, hf0⟩ := bcell hb0; have HS := hide (made_two (bat (b := w.heap.size + 1) (o := 0) (v := .int .i64 0) hx2 (by simp) (by simp [go_sem])) (bat (b := w.heap.size + 1) (o := 1) (v := .bool false) hx2 (by simp) (by simp [go_sem]))); have xa := bat hacc hB x0; have xb := bat hacc hB x1; have ya := bat hacc hB y0; have yb := bat hacc hB y1; clear hb0)
  have hB0 := Nat.lt_of_lt_of_le hB hacc.size
  go_region_held3 (fun V => V.cell? ⟨b, off, none⟩ = some (.int .i64 xk) ∧ V.cell? ⟨b, off + 1, none⟩ = some (.bool xn) ∧ V.cell? ⟨b, off + 2, none⟩ = some (.int .i64 yk) ∧ V.cell? ⟨b, off + 2 + 1, none⟩ = some (.bool yn)) (first | exact ⟨xa, xb, ya, yb⟩ | (have hq := below_undrew hb1; exact ⟨bat hq hB0 xa, bat hq hB0 xb, bat hq hB0 ya, bat hq hB0 yb⟩)) (first | (go_at_call 211; refine (common_any _ _ _ _ _).mono ?_; rintro e w1 ⟨rfl, hb1⟩))
  have hq := below_undrew hb1
  have hacc := below_trans hacc hq
  have hx2 := below_trans hx2 hq
  clear hq hb1
  obtain ⟨hc1, hf1⟩ := bcell hx2
  have HS := hide (made_two (bat (b := w.heap.size + 1) (o := 0) (v := .int .i64 0) hx2 (by simp) (by simp [go_sem])) (bat (b := w.heap.size + 1) (o := 1) (v := .bool false) hx2 (by simp) (by simp [go_sem])))
  have xa := bat hacc hB x0
  have xb := bat hacc hB x1
  have ya := bat hacc hB y0
  have yb := bat hacc hB y1
  go_wp2
  all_goals
    refine bodyPost_ret (v := .tuple #[.agg (opKd ⟨12, ⟨kd, nu, st⟩, nm, ar⟩ ([⟨xk, xn⟩, ⟨yk, yn⟩] : List Kd)).1.cells.toArray, .bool (opKd ⟨12, ⟨kd, nu, st⟩, nm, ar⟩ ([⟨xk, xn⟩, ⟨yk, yn⟩] : List Kd)).2]) ?_ rfl ?_
    · obtain ⟨S0, S1⟩ := HS.out
      simp [results, Tryz.results173, go_sem, S0, S1]
      go_light
      (try simp_all [opKd, unKd, binKd, Kd.cells])
    · refine ⟨rfl, ?_⟩
      first | exact hacc | exact (hacc.setCell (by simp) _).setCell (by simp) _
set_option maxHeartbeats 4000000 in
set_option maxRecDepth 100000 in
theorem typed_13 (kd nu ar : Int) (st nm : ByteArray) (w : World) (b off : Nat) (c : Nat) (x : Kd) (y : Kd) (hx : In w (some ⟨b, off, none⟩) 2 c ([x, y] : List Kd)) :
    Calls Tryz.prog 173 #[.agg (ncells 13 kd nu st nm ar), .slice (some ⟨b, off, none⟩) 2 c] w fun e w' => e = .returned (.tuple #[.agg (opKd ⟨13, ⟨kd, nu, st⟩, nm, ar⟩ ([x, y] : List Kd)).1.cells.toArray, .bool (opKd ⟨13, ⟨kd, nu, st⟩, nm, ar⟩ ([x, y] : List Kd)).2]) ∧ Below w.heap.size w w' := by
  obtain ⟨hB, x0, x1⟩ := kd_cells hx (show 0 < 2 by omega) (x := x) rfl
  obtain ⟨xk, xn⟩ := x
  obtain ⟨hB, y0, y1⟩ := kd_cells hx (show 1 < 2 by omega) (x := y) rfl
  obtain ⟨yk, yn⟩ := y
  simp only [Nat.zero_mul, Nat.one_mul, Nat.add_zero, Nat.reduceMul] at x0 x1 y0 y1
  simp only [ncells]
  go_enter Tryz.func173, Tryz.ntmps173
  go_wp2_with (go_at_call 208; refine (containsFunc_kd _ _ _ _ _ (hx.below below_alloc2)).mono ?_; rintro e w0 ⟨rfl, hb0⟩; have hacc := below_trans below_alloc2 hb0; have hx2 := hb0; obtain ⟨hc0, hf0⟩ := bcell hb0; have HS := hide (made_two (bat (b := w.heap.size + 1) (o := 0) (v := .int .i64 0) hx2 (by simp) (by simp [go_sem])) (bat (b := w.heap.size + 1) (o := 1) (v := .bool false) hx2 (by simp) (by simp [go_sem]))); have xa := bat hacc hB x0; have xb := bat hacc hB x1; have ya := bat hacc hB y0; have yb := bat hacc hB y1; clear hb0)
  have hB0 := Nat.lt_of_lt_of_le hB hacc.size
  go_region_held3 (fun V => V.cell? ⟨b, off, none⟩ = some (.int .i64 xk) ∧ V.cell? ⟨b, off + 1, none⟩ = some (.bool xn) ∧ V.cell? ⟨b, off + 2, none⟩ = some (.int .i64 yk) ∧ V.cell? ⟨b, off + 2 + 1, none⟩ = some (.bool yn)) (first | exact ⟨xa, xb, ya, yb⟩ | (have hq := below_undrew hb1; exact ⟨bat hq hB0 xa, bat hq hB0 xb, bat hq hB0 ya, bat hq hB0 yb⟩)) (first | (go_at_call 211; refine (common_any _ _ _ _ _).mono ?_; rintro e w1 ⟨rfl, hb1⟩))
  have hq := below_undrew hb1
  have hacc := below_trans hacc hq
  have hx2 := below_trans hx2 hq
  clear hq hb1
  obtain ⟨hc1, hf1⟩ := bcell hx2
  have HS := hide (made_two (bat (b := w.heap.size + 1) (o := 0) (v := .int .i64 0) hx2 (by simp) (by simp [go_sem])) (bat (b := w.heap.size + 1) (o := 1) (v := .bool false) hx2 (by simp) (by simp [go_sem])))
  have xa := bat hacc hB x0
  have xb := bat hacc hB x1
  have ya := bat hacc hB y0
  have yb := bat hacc hB y1
  go_wp2
  all_goals
    refine bodyPost_ret (v := .tuple #[.agg (opKd ⟨13, ⟨kd, nu, st⟩, nm, ar⟩ ([⟨xk, xn⟩, ⟨yk, yn⟩] : List Kd)).1.cells.toArray, .bool (opKd ⟨13, ⟨kd, nu, st⟩, nm, ar⟩ ([⟨xk, xn⟩, ⟨yk, yn⟩] : List Kd)).2]) ?_ rfl ?_
    · obtain ⟨S0, S1⟩ := HS.out
      simp [results, Tryz.results173, go_sem, S0, S1]
      go_light
      (try simp_all [opKd, unKd, binKd, Kd.cells])
    · refine ⟨rfl, ?_⟩
      first | exact hacc | exact (hacc.setCell (by simp) _).setCell (by simp) _
set_option maxHeartbeats 4000000 in
set_option maxRecDepth 100000 in
theorem typed_14 (kd nu ar : Int) (st nm : ByteArray) (w : World) (b off : Nat) (c : Nat) (x : Kd) (y : Kd) (hx : In w (some ⟨b, off, none⟩) 2 c ([x, y] : List Kd)) :
    Calls Tryz.prog 173 #[.agg (ncells 14 kd nu st nm ar), .slice (some ⟨b, off, none⟩) 2 c] w fun e w' => e = .returned (.tuple #[.agg (opKd ⟨14, ⟨kd, nu, st⟩, nm, ar⟩ ([x, y] : List Kd)).1.cells.toArray, .bool (opKd ⟨14, ⟨kd, nu, st⟩, nm, ar⟩ ([x, y] : List Kd)).2]) ∧ Below w.heap.size w w' := by
  obtain ⟨hB, x0, x1⟩ := kd_cells hx (show 0 < 2 by omega) (x := x) rfl
  obtain ⟨xk, xn⟩ := x
  obtain ⟨hB, y0, y1⟩ := kd_cells hx (show 1 < 2 by omega) (x := y) rfl
  obtain ⟨yk, yn⟩ := y
  simp only [Nat.zero_mul, Nat.one_mul, Nat.add_zero, Nat.reduceMul] at x0 x1 y0 y1
  simp only [ncells]
  go_enter Tryz.func173, Tryz.ntmps173
  go_wp2_with (first | (go_at_call 208; refine (containsFunc_kd _ _ _ _ _ (hx.below below_alloc2)).mono ?_; rintro e w0 ⟨rfl, hb0⟩; have hacc := below_trans below_alloc2 hb0; have hx2 := hb0; obtain ⟨hc0, hf0⟩ := bcell hb0; have HS := hide (made_two (bat (b := w.heap.size + 1) (o := 0) (v := .int .i64 0) hx2 (by simp) (by simp [go_sem])) (bat (b := w.heap.size + 1) (o := 1) (v := .bool false) hx2 (by simp) (by simp [go_sem]))); have xa := bat hacc hB x0; have xb := bat hacc hB x1; have ya := bat hacc hB y0; have yb := bat hacc hB y1; clear hb0) | (go_at_call 210; refine (fits_any _ _ _ _).mono ?_; rintro e w1 ⟨rfl, hb1⟩; have hacc := below_trans hacc hb1; have hx2 := below_trans hx2 hb1; obtain ⟨hc1, hf1⟩ := bcell hx2; have HS := hide (made_two (bat (b := w.heap.size + 1) (o := 0) (v := .int .i64 0) hx2 (by simp) (by simp [go_sem])) (bat (b := w.heap.size + 1) (o := 1) (v := .bool false) hx2 (by simp) (by simp [go_sem]))); have xa := bat hacc hB x0; have xb := bat hacc hB x1; have ya := bat hacc hB y0; have yb := bat hacc hB y1; clear hb1))
  all_goals
    refine bodyPost_ret (v := .tuple #[.agg (opKd ⟨14, ⟨kd, nu, st⟩, nm, ar⟩ ([⟨xk, xn⟩, ⟨yk, yn⟩] : List Kd)).1.cells.toArray, .bool (opKd ⟨14, ⟨kd, nu, st⟩, nm, ar⟩ ([⟨xk, xn⟩, ⟨yk, yn⟩] : List Kd)).2]) ?_ rfl ?_
    · obtain ⟨S0, S1⟩ := HS.out
      simp [results, Tryz.results173, go_sem, S0, S1]
      go_light
      (try simp_all [opKd, unKd, binKd, Kd.cells])
    · refine ⟨rfl, ?_⟩
      first | exact hacc | exact (hacc.setCell (by simp) _).setCell (by simp) _
set_option maxHeartbeats 4000000 in
set_option maxRecDepth 100000 in
theorem typed_15 (kd nu ar : Int) (st nm : ByteArray) (w : World) (b off : Nat) (c : Nat) (x : Kd) (y : Kd) (hx : In w (some ⟨b, off, none⟩) 2 c ([x, y] : List Kd)) :
    Calls Tryz.prog 173 #[.agg (ncells 15 kd nu st nm ar), .slice (some ⟨b, off, none⟩) 2 c] w fun e w' => e = .returned (.tuple #[.agg (opKd ⟨15, ⟨kd, nu, st⟩, nm, ar⟩ ([x, y] : List Kd)).1.cells.toArray, .bool (opKd ⟨15, ⟨kd, nu, st⟩, nm, ar⟩ ([x, y] : List Kd)).2]) ∧ Below w.heap.size w w' := by
  obtain ⟨hB, x0, x1⟩ := kd_cells hx (show 0 < 2 by omega) (x := x) rfl
  obtain ⟨xk, xn⟩ := x
  obtain ⟨hB, y0, y1⟩ := kd_cells hx (show 1 < 2 by omega) (x := y) rfl
  obtain ⟨yk, yn⟩ := y
  simp only [Nat.zero_mul, Nat.one_mul, Nat.add_zero, Nat.reduceMul] at x0 x1 y0 y1
  simp only [ncells]
  go_enter Tryz.func173, Tryz.ntmps173
  go_wp2_with (first | (go_at_call 208; refine (containsFunc_kd _ _ _ _ _ (hx.below below_alloc2)).mono ?_; rintro e w0 ⟨rfl, hb0⟩; have hacc := below_trans below_alloc2 hb0; have hx2 := hb0; obtain ⟨hc0, hf0⟩ := bcell hb0; have HS := hide (made_two (bat (b := w.heap.size + 1) (o := 0) (v := .int .i64 0) hx2 (by simp) (by simp [go_sem])) (bat (b := w.heap.size + 1) (o := 1) (v := .bool false) hx2 (by simp) (by simp [go_sem]))); have xa := bat hacc hB x0; have xb := bat hacc hB x1; have ya := bat hacc hB y0; have yb := bat hacc hB y1; clear hb0) | (go_at_call 210; refine (fits_any _ _ _ _).mono ?_; rintro e w1 ⟨rfl, hb1⟩; have hacc := below_trans hacc hb1; have hx2 := below_trans hx2 hb1; obtain ⟨hc1, hf1⟩ := bcell hx2; have HS := hide (made_two (bat (b := w.heap.size + 1) (o := 0) (v := .int .i64 0) hx2 (by simp) (by simp [go_sem])) (bat (b := w.heap.size + 1) (o := 1) (v := .bool false) hx2 (by simp) (by simp [go_sem]))); have xa := bat hacc hB x0; have xb := bat hacc hB x1; have ya := bat hacc hB y0; have yb := bat hacc hB y1; clear hb1))
  all_goals
    refine bodyPost_ret (v := .tuple #[.agg (opKd ⟨15, ⟨kd, nu, st⟩, nm, ar⟩ ([⟨xk, xn⟩, ⟨yk, yn⟩] : List Kd)).1.cells.toArray, .bool (opKd ⟨15, ⟨kd, nu, st⟩, nm, ar⟩ ([⟨xk, xn⟩, ⟨yk, yn⟩] : List Kd)).2]) ?_ rfl ?_
    · obtain ⟨S0, S1⟩ := HS.out
      simp [results, Tryz.results173, go_sem, S0, S1]
      go_light
      (try simp_all [opKd, unKd, binKd, Kd.cells])
    · refine ⟨rfl, ?_⟩
      first | exact hacc | exact (hacc.setCell (by simp) _).setCell (by simp) _
set_option maxHeartbeats 4000000 in
set_option maxRecDepth 100000 in
theorem typed_16 (kd nu ar : Int) (st nm : ByteArray) (w : World) (b off : Nat) (c : Nat) (x : Kd) (hx : In w (some ⟨b, off, none⟩) 1 c ([x] : List Kd)) :
    Calls Tryz.prog 173 #[.agg (ncells 16 kd nu st nm ar), .slice (some ⟨b, off, none⟩) 1 c] w fun e w' => e = .returned (.tuple #[.agg (opKd ⟨16, ⟨kd, nu, st⟩, nm, ar⟩ ([x] : List Kd)).1.cells.toArray, .bool (opKd ⟨16, ⟨kd, nu, st⟩, nm, ar⟩ ([x] : List Kd)).2]) ∧ Below w.heap.size w w' := by
  obtain ⟨hB, x0, x1⟩ := kd_cells hx (show 0 < 1 by omega) (x := x) rfl
  obtain ⟨xk, xn⟩ := x
  simp only [Nat.zero_mul, Nat.one_mul, Nat.add_zero, Nat.reduceMul] at x0 x1
  simp only [ncells]
  go_enter Tryz.func173, Tryz.ntmps173
  go_wp2_with (first | (go_at_call 208; refine (containsFunc_kd _ _ _ _ _ (hx.below below_alloc2)).mono ?_; rintro e w0 ⟨rfl, hb0⟩; have hacc := below_trans below_alloc2 hb0; have hx2 := hb0; obtain ⟨hc0, hf0⟩ := bcell hb0; have HS := hide (made_two (bat (b := w.heap.size + 1) (o := 0) (v := .int .i64 0) hx2 (by simp) (by simp [go_sem])) (bat (b := w.heap.size + 1) (o := 1) (v := .bool false) hx2 (by simp) (by simp [go_sem]))); have xa := bat hacc hB x0; have xb := bat hacc hB x1; clear hb0) | (go_at_call 210; refine (fits_any _ _ _ _).mono ?_; rintro e w1 ⟨rfl, hb1⟩; have hacc := below_trans hacc hb1; have hx2 := below_trans hx2 hb1; obtain ⟨hc1, hf1⟩ := bcell hx2; have HS := hide (made_two (bat (b := w.heap.size + 1) (o := 0) (v := .int .i64 0) hx2 (by simp) (by simp [go_sem])) (bat (b := w.heap.size + 1) (o := 1) (v := .bool false) hx2 (by simp) (by simp [go_sem]))); have xa := bat hacc hB x0; have xb := bat hacc hB x1; clear hb1))
  all_goals
    refine bodyPost_ret (v := .tuple #[.agg (opKd ⟨16, ⟨kd, nu, st⟩, nm, ar⟩ ([⟨xk, xn⟩] : List Kd)).1.cells.toArray, .bool (opKd ⟨16, ⟨kd, nu, st⟩, nm, ar⟩ ([⟨xk, xn⟩] : List Kd)).2]) ?_ rfl ?_
    · obtain ⟨S0, S1⟩ := HS.out
      simp [results, Tryz.results173, go_sem, S0, S1]
      go_light
      (try simp_all [opKd, unKd, binKd, Kd.cells])
    · refine ⟨rfl, ?_⟩
      first | exact hacc | exact (hacc.setCell (by simp) _).setCell (by simp) _
set_option maxHeartbeats 4000000 in
set_option maxRecDepth 100000 in
theorem typed_18 (kd nu ar : Int) (st nm : ByteArray) (w : World) (b off : Nat) (c : Nat) (x : Kd) (y : Kd) (hx : In w (some ⟨b, off, none⟩) 2 c ([x, y] : List Kd)) :
    Calls Tryz.prog 173 #[.agg (ncells 18 kd nu st nm ar), .slice (some ⟨b, off, none⟩) 2 c] w fun e w' => e = .returned (.tuple #[.agg (opKd ⟨18, ⟨kd, nu, st⟩, nm, ar⟩ ([x, y] : List Kd)).1.cells.toArray, .bool (opKd ⟨18, ⟨kd, nu, st⟩, nm, ar⟩ ([x, y] : List Kd)).2]) ∧ Below w.heap.size w w' := by
  obtain ⟨hB, x0, x1⟩ := kd_cells hx (show 0 < 2 by omega) (x := x) rfl
  obtain ⟨xk, xn⟩ := x
  obtain ⟨hB, y0, y1⟩ := kd_cells hx (show 1 < 2 by omega) (x := y) rfl
  obtain ⟨yk, yn⟩ := y
  simp only [Nat.zero_mul, Nat.one_mul, Nat.add_zero, Nat.reduceMul] at x0 x1 y0 y1
  simp only [ncells]
  go_enter Tryz.func173, Tryz.ntmps173
  go_wp2_with (go_at_call 208; refine (containsFunc_kd _ _ _ _ _ (hx.below below_alloc2)).mono ?_; rintro e w0 ⟨rfl, hb0⟩; have hacc := below_trans below_alloc2 hb0; have hx2 := hb0; obtain ⟨hc0, hf0⟩ := bcell hb0; have HS := hide (made_two (bat (b := w.heap.size + 1) (o := 0) (v := .int .i64 0) hx2 (by simp) (by simp [go_sem])) (bat (b := w.heap.size + 1) (o := 1) (v := .bool false) hx2 (by simp) (by simp [go_sem]))); have xa := bat hacc hB x0; have xb := bat hacc hB x1; have ya := bat hacc hB y0; have yb := bat hacc hB y1; clear hb0)
  have hB0 := Nat.lt_of_lt_of_le hB hacc.size
  go_region_held3 (fun V => V.cell? ⟨b, off, none⟩ = some (.int .i64 xk) ∧ V.cell? ⟨b, off + 1, none⟩ = some (.bool xn) ∧ V.cell? ⟨b, off + 2, none⟩ = some (.int .i64 yk) ∧ V.cell? ⟨b, off + 2 + 1, none⟩ = some (.bool yn)) (first | exact ⟨xa, xb, ya, yb⟩ | (have hq := below_undrew hb1; exact ⟨bat hq hB0 xa, bat hq hB0 xb, bat hq hB0 ya, bat hq hB0 yb⟩)) (first | (go_at_call 211; refine (common_any _ _ _ _ _).mono ?_; rintro e w1 ⟨rfl, hb1⟩))
  have hq := below_undrew hb1
  have hacc := below_trans hacc hq
  have hx2 := below_trans hx2 hq
  clear hq hb1
  obtain ⟨hc1, hf1⟩ := bcell hx2
  have HS := hide (made_two (bat (b := w.heap.size + 1) (o := 0) (v := .int .i64 0) hx2 (by simp) (by simp [go_sem])) (bat (b := w.heap.size + 1) (o := 1) (v := .bool false) hx2 (by simp) (by simp [go_sem])))
  have xa := bat hacc hB x0
  have xb := bat hacc hB x1
  have ya := bat hacc hB y0
  have yb := bat hacc hB y1
  go_wp2
  all_goals
    refine bodyPost_ret (v := .tuple #[.agg (opKd ⟨18, ⟨kd, nu, st⟩, nm, ar⟩ ([⟨xk, xn⟩, ⟨yk, yn⟩] : List Kd)).1.cells.toArray, .bool (opKd ⟨18, ⟨kd, nu, st⟩, nm, ar⟩ ([⟨xk, xn⟩, ⟨yk, yn⟩] : List Kd)).2]) ?_ rfl ?_
    · obtain ⟨S0, S1⟩ := HS.out
      simp [results, Tryz.results173, go_sem, S0, S1]
      go_light
      (try simp_all [opKd, unKd, binKd, Kd.cells])
    · refine ⟨rfl, ?_⟩
      first | exact hacc | exact (hacc.setCell (by simp) _).setCell (by simp) _
set_option maxHeartbeats 4000000 in
set_option maxRecDepth 100000 in
theorem typed_19 (kd nu ar : Int) (st nm : ByteArray) (w : World) (b off : Nat) (c : Nat) (x : Kd) (hx : In w (some ⟨b, off, none⟩) 1 c ([x] : List Kd)) :
    Calls Tryz.prog 173 #[.agg (ncells 19 kd nu st nm ar), .slice (some ⟨b, off, none⟩) 1 c] w fun e w' => e = .returned (.tuple #[.agg (opKd ⟨19, ⟨kd, nu, st⟩, nm, ar⟩ ([x] : List Kd)).1.cells.toArray, .bool (opKd ⟨19, ⟨kd, nu, st⟩, nm, ar⟩ ([x] : List Kd)).2]) ∧ Below w.heap.size w w' := by
  obtain ⟨hB, x0, x1⟩ := kd_cells hx (show 0 < 1 by omega) (x := x) rfl
  obtain ⟨xk, xn⟩ := x
  simp only [Nat.zero_mul, Nat.one_mul, Nat.add_zero, Nat.reduceMul] at x0 x1
  simp only [ncells]
  go_enter Tryz.func173, Tryz.ntmps173
  go_wp2_with (first | (go_at_call 208; refine (containsFunc_kd _ _ _ _ _ (hx.below below_alloc2)).mono ?_; rintro e w0 ⟨rfl, hb0⟩; have hacc := below_trans below_alloc2 hb0; have hx2 := hb0; obtain ⟨hc0, hf0⟩ := bcell hb0; have HS := hide (made_two (bat (b := w.heap.size + 1) (o := 0) (v := .int .i64 0) hx2 (by simp) (by simp [go_sem])) (bat (b := w.heap.size + 1) (o := 1) (v := .bool false) hx2 (by simp) (by simp [go_sem]))); have xa := bat hacc hB x0; have xb := bat hacc hB x1; clear hb0) | (go_at_call 210; refine (fits_any _ _ _ _).mono ?_; rintro e w1 ⟨rfl, hb1⟩; have hacc := below_trans hacc hb1; have hx2 := below_trans hx2 hb1; obtain ⟨hc1, hf1⟩ := bcell hx2; have HS := hide (made_two (bat (b := w.heap.size + 1) (o := 0) (v := .int .i64 0) hx2 (by simp) (by simp [go_sem])) (bat (b := w.heap.size + 1) (o := 1) (v := .bool false) hx2 (by simp) (by simp [go_sem]))); have xa := bat hacc hB x0; have xb := bat hacc hB x1; clear hb1))
  all_goals
    refine bodyPost_ret (v := .tuple #[.agg (opKd ⟨19, ⟨kd, nu, st⟩, nm, ar⟩ ([⟨xk, xn⟩] : List Kd)).1.cells.toArray, .bool (opKd ⟨19, ⟨kd, nu, st⟩, nm, ar⟩ ([⟨xk, xn⟩] : List Kd)).2]) ?_ rfl ?_
    · obtain ⟨S0, S1⟩ := HS.out
      simp [results, Tryz.results173, go_sem, S0, S1]
      go_light
      (try simp_all [opKd, unKd, binKd, Kd.cells])
    · refine ⟨rfl, ?_⟩
      first | exact hacc | exact (hacc.setCell (by simp) _).setCell (by simp) _
set_option maxHeartbeats 4000000 in
set_option maxRecDepth 100000 in
theorem typed_20 (kd nu ar : Int) (st nm : ByteArray) (w : World) (b off : Nat) (c : Nat) (x : Kd) (hx : In w (some ⟨b, off, none⟩) 1 c ([x] : List Kd)) :
    Calls Tryz.prog 173 #[.agg (ncells 20 kd nu st nm ar), .slice (some ⟨b, off, none⟩) 1 c] w fun e w' => e = .returned (.tuple #[.agg (opKd ⟨20, ⟨kd, nu, st⟩, nm, ar⟩ ([x] : List Kd)).1.cells.toArray, .bool (opKd ⟨20, ⟨kd, nu, st⟩, nm, ar⟩ ([x] : List Kd)).2]) ∧ Below w.heap.size w w' := by
  obtain ⟨hB, x0, x1⟩ := kd_cells hx (show 0 < 1 by omega) (x := x) rfl
  obtain ⟨xk, xn⟩ := x
  simp only [Nat.zero_mul, Nat.one_mul, Nat.add_zero, Nat.reduceMul] at x0 x1
  simp only [ncells]
  go_enter Tryz.func173, Tryz.ntmps173
  go_wp2_with (first | (go_at_call 208; refine (containsFunc_kd _ _ _ _ _ (hx.below below_alloc2)).mono ?_; rintro e w0 ⟨rfl, hb0⟩; have hacc := below_trans below_alloc2 hb0; have hx2 := hb0; obtain ⟨hc0, hf0⟩ := bcell hb0; have HS := hide (made_two (bat (b := w.heap.size + 1) (o := 0) (v := .int .i64 0) hx2 (by simp) (by simp [go_sem])) (bat (b := w.heap.size + 1) (o := 1) (v := .bool false) hx2 (by simp) (by simp [go_sem]))); have xa := bat hacc hB x0; have xb := bat hacc hB x1; clear hb0) | (go_at_call 210; refine (fits_any _ _ _ _).mono ?_; rintro e w1 ⟨rfl, hb1⟩; have hacc := below_trans hacc hb1; have hx2 := below_trans hx2 hb1; obtain ⟨hc1, hf1⟩ := bcell hx2; have HS := hide (made_two (bat (b := w.heap.size + 1) (o := 0) (v := .int .i64 0) hx2 (by simp) (by simp [go_sem])) (bat (b := w.heap.size + 1) (o := 1) (v := .bool false) hx2 (by simp) (by simp [go_sem]))); have xa := bat hacc hB x0; have xb := bat hacc hB x1; clear hb1))
  all_goals
    refine bodyPost_ret (v := .tuple #[.agg (opKd ⟨20, ⟨kd, nu, st⟩, nm, ar⟩ ([⟨xk, xn⟩] : List Kd)).1.cells.toArray, .bool (opKd ⟨20, ⟨kd, nu, st⟩, nm, ar⟩ ([⟨xk, xn⟩] : List Kd)).2]) ?_ rfl ?_
    · obtain ⟨S0, S1⟩ := HS.out
      simp [results, Tryz.results173, go_sem, S0, S1]
      go_light
      (try simp_all [opKd, unKd, binKd, Kd.cells])
    · refine ⟨rfl, ?_⟩
      first | exact hacc | exact (hacc.setCell (by simp) _).setCell (by simp) _
end Go.Proofs.YtggejcekmehocaaGreatDoor
