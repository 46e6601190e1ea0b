/-
  scalar.typed: it returns opKd, at OpIf. (Printed by gen_typed.py.)
-/
import Derived.Test.YtggejcekmehocaaGreatDoorTypB
namespace Go.Proofs.YtggejcekmehocaaGreatDoor
open Go.RowKit
set_option linter.unusedSimpArgs false
set_option linter.unusedVariables false
set_option maxHeartbeats 4000000 in
set_option maxRecDepth 100000 in
theorem typed_17_ff (kd nu ar : Int) (st nm : ByteArray) (w : World) (b off : Nat) (c : Nat) (x : Kd) (yk : Int) (zk : Int) (zn : Bool) (hco : (common ⟨yk, false⟩ ⟨zk, zn⟩).2 = false) (hx : In w (some ⟨b, off, none⟩) 3 c ([x, ⟨yk, false⟩, ⟨zk, zn⟩] : List Kd)) :
    Calls Tryz.prog 173 #[.agg (ncells 17 kd nu st nm ar), .slice (some ⟨b, off, none⟩) 3 c] w fun e w' => e = .returned (.tuple #[.agg (opKd ⟨17, ⟨kd, nu, st⟩, nm, ar⟩ ([x, ⟨yk, false⟩, ⟨zk, zn⟩] : List Kd)).1.cells.toArray, .bool (opKd ⟨17, ⟨kd, nu, st⟩, nm, ar⟩ ([x, ⟨yk, false⟩, ⟨zk, zn⟩] : List Kd)).2]) ∧ Below w.heap.size w w' := by
  obtain ⟨hB, x0, x1⟩ := kd_cells hx (show 0 < 3 by omega) (x := x) rfl
  obtain ⟨xk, xn⟩ := x
  obtain ⟨hB, y0, y1⟩ := kd_cells hx (show 1 < 3 by omega) (x := ⟨yk, false⟩) rfl
  obtain ⟨hB, z0, z1⟩ := kd_cells hx (show 2 < 3 by omega) (x := ⟨zk, zn⟩) rfl
  simp only [Nat.zero_mul, Nat.one_mul, Nat.add_zero, Nat.reduceMul] at x0 x1 y0 y1 z0 z1
  simp only [ncells]
  go_enter Tryz.func173, Tryz.ntmps173
  go_wp2_with (go_at_call 208; refine (containsFunc_kd _ _ _ _ _ (hx.below below_alloc2)).mono ?_; rintro e w0 ⟨rfl, hb0⟩; have hacc := below_trans below_alloc2 hb0; have hx2 := hb0; obtain ⟨hc0, hf0⟩ := bcell hb0; have HS := hide (made_two (bat (b := w.heap.size + 1) (o := 0) (v := .int .i64 0) hx2 (by simp) (by simp [go_sem])) (bat (b := w.heap.size + 1) (o := 1) (v := .bool false) hx2 (by simp) (by simp [go_sem]))); have xa := bat hacc hB x0; have xb := bat hacc hB x1; have ya := bat hacc hB y0; have yb := bat hacc hB y1; have za := bat hacc hB z0; have zb := bat hacc hB z1; clear hb0)
  have hB0 := Nat.lt_of_lt_of_le hB hacc.size
  go_region_held3 (fun V => V.cell? ⟨b, off + 2, none⟩ = some (.int .i64 yk) ∧ V.cell? ⟨b, off + 2 + 1, none⟩ = some (.bool false) ∧ V.cell? ⟨b, off + 4, none⟩ = some (.int .i64 zk) ∧ V.cell? ⟨b, off + 4 + 1, none⟩ = some (.bool zn)) (first | exact ⟨ya, yb, za, zb⟩ | (have hq := below_undrew hb1; exact ⟨bat hq hB0 ya, bat hq hB0 yb, bat hq hB0 za, bat hq hB0 zb⟩)) (first | (go_at_call 211; refine (common_any _ _ _ _ _).mono ?_; rintro e w1 ⟨rfl, hb1⟩))
  have hq := below_undrew hb1
  have hacc := below_trans hacc hq
  have hx2 := below_trans hx2 hq
  clear hq hb1
  obtain ⟨hc1, hf1⟩ := bcell hx2
  have HS := hide (made_two (bat (b := w.heap.size + 1) (o := 0) (v := .int .i64 0) hx2 (by simp) (by simp [go_sem])) (bat (b := w.heap.size + 1) (o := 1) (v := .bool false) hx2 (by simp) (by simp [go_sem])))
  have xa := bat hacc hB x0
  have xb := bat hacc hB x1
  have ya := bat hacc hB y0
  have yb := bat hacc hB y1
  have za := bat hacc hB z0
  have zb := bat hacc hB z1
  have hB1 := Nat.lt_of_lt_of_le hB hacc.size
  have hne : ¬ b = w.heap.size + 1 := by omega
  have hG : w.heap.size + 1 < w1.heap.size := by have := hx2.size; simp at this; omega
  have T0 := bat (b := w.heap.size + 1) (o := 0) (v := .int .i64 0) hx2 (by simp) (by simp [go_sem])
  have T1 := bat (b := w.heap.size + 1) (o := 1) (v := .bool false) hx2 (by simp) (by simp [go_sem])
  have F0 : w1.frozen? ⟨w.heap.size + 1, 0, none⟩ = false := by rw [hf1 _ _ (by simp)]; simp [go_sem]
  have F1 : w1.frozen? ⟨w.heap.size + 1, 1, none⟩ = false := by rw [hf1 _ _ (by simp)]; simp [go_sem]
  have HACC := hide hacc
  clear hc0 hf0 hc1 hf1 hx2 hacc HS hB x0 x1 y0 y1 z0 z1 hx
  go_wp2
  go_region
  all_goals
    go_wp2
    refine bodyPost_ret (v := .tuple #[.agg (opKd ⟨17, ⟨kd, nu, st⟩, nm, ar⟩ ([⟨xk, xn⟩, ⟨yk, false⟩, ⟨zk, zn⟩] : List Kd)).1.cells.toArray, .bool (opKd ⟨17, ⟨kd, nu, st⟩, nm, ar⟩ ([⟨xk, xn⟩, ⟨yk, false⟩, ⟨zk, zn⟩] : List Kd)).2]) ?_ rfl ?_
    · obtain ⟨S0, S1⟩ := made_two T0 T1
      simp [results, Tryz.results173, go_sem, S0, S1]
      all_goals (simp [opKd, Kd.cells, hco])
    · exact ⟨rfl, by exact (HACC.out.drew.setCell (by simp <;> omega) _).setCell (by simp <;> omega) _⟩
set_option maxHeartbeats 4000000 in
set_option maxRecDepth 100000 in
theorem typed_17_ft (kd nu ar : Int) (st nm : ByteArray) (w : World) (b off : Nat) (c : Nat) (x : Kd) (yk : Int) (zk : Int) (zn : Bool) (hco : (common ⟨yk, false⟩ ⟨zk, zn⟩).2 = true) (hx : In w (some ⟨b, off, none⟩) 3 c ([x, ⟨yk, false⟩, ⟨zk, zn⟩] : List Kd)) :
    Calls Tryz.prog 173 #[.agg (ncells 17 kd nu st nm ar), .slice (some ⟨b, off, none⟩) 3 c] w fun e w' => e = .returned (.tuple #[.agg (opKd ⟨17, ⟨kd, nu, st⟩, nm, ar⟩ ([x, ⟨yk, false⟩, ⟨zk, zn⟩] : List Kd)).1.cells.toArray, .bool (opKd ⟨17, ⟨kd, nu, st⟩, nm, ar⟩ ([x, ⟨yk, false⟩, ⟨zk, zn⟩] : List Kd)).2]) ∧ Below w.heap.size w w' := by
  obtain ⟨hB, x0, x1⟩ := kd_cells hx (show 0 < 3 by omega) (x := x) rfl
  obtain ⟨xk, xn⟩ := x
  obtain ⟨hB, y0, y1⟩ := kd_cells hx (show 1 < 3 by omega) (x := ⟨yk, false⟩) rfl
  obtain ⟨hB, z0, z1⟩ := kd_cells hx (show 2 < 3 by omega) (x := ⟨zk, zn⟩) rfl
  simp only [Nat.zero_mul, Nat.one_mul, Nat.add_zero, Nat.reduceMul] at x0 x1 y0 y1 z0 z1
  simp only [ncells]
  go_enter Tryz.func173, Tryz.ntmps173
  go_wp2_with (go_at_call 208; refine (containsFunc_kd _ _ _ _ _ (hx.below below_alloc2)).mono ?_; rintro e w0 ⟨rfl, hb0⟩; have hacc := below_trans below_alloc2 hb0; have hx2 := hb0; obtain ⟨hc0, hf0⟩ := bcell hb0; have HS := hide (made_two (bat (b := w.heap.size + 1) (o := 0) (v := .int .i64 0) hx2 (by simp) (by simp [go_sem])) (bat (b := w.heap.size + 1) (o := 1) (v := .bool false) hx2 (by simp) (by simp [go_sem]))); have xa := bat hacc hB x0; have xb := bat hacc hB x1; have ya := bat hacc hB y0; have yb := bat hacc hB y1; have za := bat hacc hB z0; have zb := bat hacc hB z1; clear hb0)
  have hB0 := Nat.lt_of_lt_of_le hB hacc.size
  go_region_held3 (fun V => V.cell? ⟨b, off + 2, none⟩ = some (.int .i64 yk) ∧ V.cell? ⟨b, off + 2 + 1, none⟩ = some (.bool false) ∧ V.cell? ⟨b, off + 4, none⟩ = some (.int .i64 zk) ∧ V.cell? ⟨b, off + 4 + 1, none⟩ = some (.bool zn)) (first | exact ⟨ya, yb, za, zb⟩ | (have hq := below_undrew hb1; exact ⟨bat hq hB0 ya, bat hq hB0 yb, bat hq hB0 za, bat hq hB0 zb⟩)) (first | (go_at_call 211; refine (common_any _ _ _ _ _).mono ?_; rintro e w1 ⟨rfl, hb1⟩))
  have hq := below_undrew hb1
  have hacc := below_trans hacc hq
  have hx2 := below_trans hx2 hq
  clear hq hb1
  obtain ⟨hc1, hf1⟩ := bcell hx2
  have HS := hide (made_two (bat (b := w.heap.size + 1) (o := 0) (v := .int .i64 0) hx2 (by simp) (by simp [go_sem])) (bat (b := w.heap.size + 1) (o := 1) (v := .bool false) hx2 (by simp) (by simp [go_sem])))
  have xa := bat hacc hB x0
  have xb := bat hacc hB x1
  have ya := bat hacc hB y0
  have yb := bat hacc hB y1
  have za := bat hacc hB z0
  have zb := bat hacc hB z1
  have hB1 := Nat.lt_of_lt_of_le hB hacc.size
  have hne : ¬ b = w.heap.size + 1 := by omega
  have hG : w.heap.size + 1 < w1.heap.size := by have := hx2.size; simp at this; omega
  have T0 := bat (b := w.heap.size + 1) (o := 0) (v := .int .i64 0) hx2 (by simp) (by simp [go_sem])
  have T1 := bat (b := w.heap.size + 1) (o := 1) (v := .bool false) hx2 (by simp) (by simp [go_sem])
  have F0 : w1.frozen? ⟨w.heap.size + 1, 0, none⟩ = false := by rw [hf1 _ _ (by simp)]; simp [go_sem]
  have F1 : w1.frozen? ⟨w.heap.size + 1, 1, none⟩ = false := by rw [hf1 _ _ (by simp)]; simp [go_sem]
  have HACC := hide hacc
  clear hc0 hf0 hc1 hf1 hx2 hacc HS hB x0 x1 y0 y1 z0 z1 hx
  go_wp2
  first | (go_region_held3 (fun V => V.cell? ⟨b, off, none⟩ = some (.int .i64 xk) ∧ V.cell? ⟨b, off + 1, none⟩ = some (.bool xn) ∧ V.cell? ⟨b, off + 2 + 1, none⟩ = some (.bool false) ∧ V.cell? ⟨b, off + 4 + 1, none⟩ = some (.bool zn)) (first | exact ⟨xa, xb, yb, zb⟩ | exact ⟨xa', xb', yb', zb'⟩ | exact ⟨set_far (set_far xa (.inl hne)) (.inl hne), set_far (set_far xb (.inl hne)) (.inl hne), set_far (set_far yb (.inl hne)) (.inl hne), set_far (set_far zb (.inl hne)) (.inl hne)⟩ | exact ⟨set_far (set_far xa' (.inl hne)) (.inl hne), set_far (set_far xb' (.inl hne)) (.inl hne), set_far (set_far yb' (.inl hne)) (.inl hne), set_far (set_far zb' (.inl hne)) (.inl hne)⟩) (first | (go_at_call 210; refine (fits_any _ _ _ _).mono ?_; rintro e w2 ⟨rfl, hb2⟩; have hq := below_undrew hb2; have xa' := bat hq hB1 xa; have xb' := bat hq hB1 xb; have yb' := bat hq hB1 yb; have zb' := bat hq hB1 zb; have T0' := bat hq hG T0; have T1' := bat hq hG T1; have F0' := ((bcell hq).2 _ _ hG).trans F0; have F1' := ((bcell hq).2 _ _ hG).trans F1; clear hb2))) | fail
  all_goals
    go_wp2
    refine bodyPost_ret (v := .tuple #[.agg (opKd ⟨17, ⟨kd, nu, st⟩, nm, ar⟩ ([⟨xk, xn⟩, ⟨yk, false⟩, ⟨zk, zn⟩] : List Kd)).1.cells.toArray, .bool (opKd ⟨17, ⟨kd, nu, st⟩, nm, ar⟩ ([⟨xk, xn⟩, ⟨yk, false⟩, ⟨zk, zn⟩] : List Kd)).2]) ?_ rfl ?_
    · first | (obtain ⟨S0, S1⟩ := made_two T0' T1'; simp [results, Tryz.results173, go_sem, S0, S1]) | (obtain ⟨S0, S1⟩ := made_two T0 T1; simp [results, Tryz.results173, go_sem, S0, S1]; done) | (obtain ⟨S0, S1⟩ := made_two T0 T1; simp [results, Tryz.results173, go_sem, S0, S1]; (simp [opKd, Kd.cells, hco]; done)) | (obtain ⟨S0, S1⟩ := made_two (w := w1.drew) (u0 := .int .i64 0) (u1 := .bool false) (by simpa using T0) (by simpa using T1); simp [results, Tryz.results173, go_sem, S0, S1])
      all_goals (simp [opKd, Kd.cells, hco])
    · exact ⟨rfl, by first | exact ((below_trans HACC.out hq).setCell (by simp <;> omega) _).setCell (by simp <;> omega) _ | exact (HACC.out.drew.setCell (by simp <;> omega) _).setCell (by simp <;> omega) _⟩
set_option maxHeartbeats 4000000 in
set_option maxRecDepth 100000 in
theorem typed_17_tf (kd nu ar : Int) (st nm : ByteArray) (w : World) (b off : Nat) (c : Nat) (x : Kd) (yk : Int) (zk : Int) (zn : Bool) (hco : (common ⟨yk, true⟩ ⟨zk, zn⟩).2 = false) (hx : In w (some ⟨b, off, none⟩) 3 c ([x, ⟨yk, true⟩, ⟨zk, zn⟩] : List Kd)) :
    Calls Tryz.prog 173 #[.agg (ncells 17 kd nu st nm ar), .slice (some ⟨b, off, none⟩) 3 c] w fun e w' => e = .returned (.tuple #[.agg (opKd ⟨17, ⟨kd, nu, st⟩, nm, ar⟩ ([x, ⟨yk, true⟩, ⟨zk, zn⟩] : List Kd)).1.cells.toArray, .bool (opKd ⟨17, ⟨kd, nu, st⟩, nm, ar⟩ ([x, ⟨yk, true⟩, ⟨zk, zn⟩] : List Kd)).2]) ∧ Below w.heap.size w w' := by
  obtain ⟨hB, x0, x1⟩ := kd_cells hx (show 0 < 3 by omega) (x := x) rfl
  obtain ⟨xk, xn⟩ := x
  obtain ⟨hB, y0, y1⟩ := kd_cells hx (show 1 < 3 by omega) (x := ⟨yk, true⟩) rfl
  obtain ⟨hB, z0, z1⟩ := kd_cells hx (show 2 < 3 by omega) (x := ⟨zk, zn⟩) rfl
  simp only [Nat.zero_mul, Nat.one_mul, Nat.add_zero, Nat.reduceMul] at x0 x1 y0 y1 z0 z1
  simp only [ncells]
  go_enter Tryz.func173, Tryz.ntmps173
  go_wp2_with (go_at_call 208; refine (containsFunc_kd _ _ _ _ _ (hx.below below_alloc2)).mono ?_; rintro e w0 ⟨rfl, hb0⟩; have hacc := below_trans below_alloc2 hb0; have hx2 := hb0; obtain ⟨hc0, hf0⟩ := bcell hb0; have HS := hide (made_two (bat (b := w.heap.size + 1) (o := 0) (v := .int .i64 0) hx2 (by simp) (by simp [go_sem])) (bat (b := w.heap.size + 1) (o := 1) (v := .bool false) hx2 (by simp) (by simp [go_sem]))); have xa := bat hacc hB x0; have xb := bat hacc hB x1; have ya := bat hacc hB y0; have yb := bat hacc hB y1; have za := bat hacc hB z0; have zb := bat hacc hB z1; clear hb0)
  have hB0 := Nat.lt_of_lt_of_le hB hacc.size
  go_region_held3 (fun V => V.cell? ⟨b, off + 2, none⟩ = some (.int .i64 yk) ∧ V.cell? ⟨b, off + 2 + 1, none⟩ = some (.bool true) ∧ V.cell? ⟨b, off + 4, none⟩ = some (.int .i64 zk) ∧ V.cell? ⟨b, off + 4 + 1, none⟩ = some (.bool zn)) (first | exact ⟨ya, yb, za, zb⟩ | (have hq := below_undrew hb1; exact ⟨bat hq hB0 ya, bat hq hB0 yb, bat hq hB0 za, bat hq hB0 zb⟩)) (first | (go_at_call 211; refine (common_any _ _ _ _ _).mono ?_; rintro e w1 ⟨rfl, hb1⟩))
  have hq := below_undrew hb1
  have hacc := below_trans hacc hq
  have hx2 := below_trans hx2 hq
  clear hq hb1
  obtain ⟨hc1, hf1⟩ := bcell hx2
  have HS := hide (made_two (bat (b := w.heap.size + 1) (o := 0) (v := .int .i64 0) hx2 (by simp) (by simp [go_sem])) (bat (b := w.heap.size + 1) (o := 1) (v := .bool false) hx2 (by simp) (by simp [go_sem])))
  have xa := bat hacc hB x0
  have xb := bat hacc hB x1
  have ya := bat hacc hB y0
  have yb := bat hacc hB y1
  have za := bat hacc hB z0
  have zb := bat hacc hB z1
  have hB1 := Nat.lt_of_lt_of_le hB hacc.size
  have hne : ¬ b = w.heap.size + 1 := by omega
  have hG : w.heap.size + 1 < w1.heap.size := by have := hx2.size; simp at this; omega
  have T0 := bat (b := w.heap.size + 1) (o := 0) (v := .int .i64 0) hx2 (by simp) (by simp [go_sem])
  have T1 := bat (b := w.heap.size + 1) (o := 1) (v := .bool false) hx2 (by simp) (by simp [go_sem])
  have F0 : w1.frozen? ⟨w.heap.size + 1, 0, none⟩ = false := by rw [hf1 _ _ (by simp)]; simp [go_sem]
  have F1 : w1.frozen? ⟨w.heap.size + 1, 1, none⟩ = false := by rw [hf1 _ _ (by simp)]; simp [go_sem]
  have HACC := hide hacc
  clear hc0 hf0 hc1 hf1 hx2 hacc HS hB x0 x1 y0 y1 z0 z1 hx
  go_wp2
  go_region
  all_goals
    go_wp2
    refine bodyPost_ret (v := .tuple #[.agg (opKd ⟨17, ⟨kd, nu, st⟩, nm, ar⟩ ([⟨xk, xn⟩, ⟨yk, true⟩, ⟨zk, zn⟩] : List Kd)).1.cells.toArray, .bool (opKd ⟨17, ⟨kd, nu, st⟩, nm, ar⟩ ([⟨xk, xn⟩, ⟨yk, true⟩, ⟨zk, zn⟩] : List Kd)).2]) ?_ rfl ?_
    · obtain ⟨S0, S1⟩ := made_two T0 T1
      simp [results, Tryz.results173, go_sem, S0, S1]
      all_goals (simp [opKd, Kd.cells, hco])
    · exact ⟨rfl, by exact (HACC.out.drew.setCell (by simp <;> omega) _).setCell (by simp <;> omega) _⟩
set_option maxHeartbeats 4000000 in
set_option maxRecDepth 100000 in
theorem typed_17_tt (kd nu ar : Int) (st nm : ByteArray) (w : World) (b off : Nat) (c : Nat) (x : Kd) (yk : Int) (zk : Int) (zn : Bool) (hco : (common ⟨yk, true⟩ ⟨zk, zn⟩).2 = true) (hx : In w (some ⟨b, off, none⟩) 3 c ([x, ⟨yk, true⟩, ⟨zk, zn⟩] : List Kd)) :
    Calls Tryz.prog 173 #[.agg (ncells 17 kd nu st nm ar), .slice (some ⟨b, off, none⟩) 3 c] w fun e w' => e = .returned (.tuple #[.agg (opKd ⟨17, ⟨kd, nu, st⟩, nm, ar⟩ ([x, ⟨yk, true⟩, ⟨zk, zn⟩] : List Kd)).1.cells.toArray, .bool (opKd ⟨17, ⟨kd, nu, st⟩, nm, ar⟩ ([x, ⟨yk, true⟩, ⟨zk, zn⟩] : List Kd)).2]) ∧ Below w.heap.size w w' := by
  obtain ⟨hB, x0, x1⟩ := kd_cells hx (show 0 < 3 by omega) (x := x) rfl
  obtain ⟨xk, xn⟩ := x
  obtain ⟨hB, y0, y1⟩ := kd_cells hx (show 1 < 3 by omega) (x := ⟨yk, true⟩) rfl
  obtain ⟨hB, z0, z1⟩ := kd_cells hx (show 2 < 3 by omega) (x := ⟨zk, zn⟩) rfl
  simp only [Nat.zero_mul, Nat.one_mul, Nat.add_zero, Nat.reduceMul] at x0 x1 y0 y1 z0 z1
  simp only [ncells]
  go_enter Tryz.func173, Tryz.ntmps173
  go_wp2_with (go_at_call 208; refine (containsFunc_kd _ _ _ _ _ (hx.below below_alloc2)).mono ?_; rintro e w0 ⟨rfl, hb0⟩; have hacc := below_trans below_alloc2 hb0; have hx2 := hb0; obtain ⟨hc0, hf0⟩ := bcell hb0; have HS := hide (made_two (bat (b := w.heap.size + 1) (o := 0) (v := .int .i64 0) hx2 (by simp) (by simp [go_sem])) (bat (b := w.heap.size + 1) (o := 1) (v := .bool false) hx2 (by simp) (by simp [go_sem]))); have xa := bat hacc hB x0; have xb := bat hacc hB x1; have ya := bat hacc hB y0; have yb := bat hacc hB y1; have za := bat hacc hB z0; have zb := bat hacc hB z1; clear hb0)
  have hB0 := Nat.lt_of_lt_of_le hB hacc.size
  go_region_held3 (fun V => V.cell? ⟨b, off + 2, none⟩ = some (.int .i64 yk) ∧ V.cell? ⟨b, off + 2 + 1, none⟩ = some (.bool true) ∧ V.cell? ⟨b, off + 4, none⟩ = some (.int .i64 zk) ∧ V.cell? ⟨b, off + 4 + 1, none⟩ = some (.bool zn)) (first | exact ⟨ya, yb, za, zb⟩ | (have hq := below_undrew hb1; exact ⟨bat hq hB0 ya, bat hq hB0 yb, bat hq hB0 za, bat hq hB0 zb⟩)) (first | (go_at_call 211; refine (common_any _ _ _ _ _).mono ?_; rintro e w1 ⟨rfl, hb1⟩))
  have hq := below_undrew hb1
  have hacc := below_trans hacc hq
  have hx2 := below_trans hx2 hq
  clear hq hb1
  obtain ⟨hc1, hf1⟩ := bcell hx2
  have HS := hide (made_two (bat (b := w.heap.size + 1) (o := 0) (v := .int .i64 0) hx2 (by simp) (by simp [go_sem])) (bat (b := w.heap.size + 1) (o := 1) (v := .bool false) hx2 (by simp) (by simp [go_sem])))
  have xa := bat hacc hB x0
  have xb := bat hacc hB x1
  have ya := bat hacc hB y0
  have yb := bat hacc hB y1
  have za := bat hacc hB z0
  have zb := bat hacc hB z1
  have hB1 := Nat.lt_of_lt_of_le hB hacc.size
  have hne : ¬ b = w.heap.size + 1 := by omega
  have hG : w.heap.size + 1 < w1.heap.size := by have := hx2.size; simp at this; omega
  have T0 := bat (b := w.heap.size + 1) (o := 0) (v := .int .i64 0) hx2 (by simp) (by simp [go_sem])
  have T1 := bat (b := w.heap.size + 1) (o := 1) (v := .bool false) hx2 (by simp) (by simp [go_sem])
  have F0 : w1.frozen? ⟨w.heap.size + 1, 0, none⟩ = false := by rw [hf1 _ _ (by simp)]; simp [go_sem]
  have F1 : w1.frozen? ⟨w.heap.size + 1, 1, none⟩ = false := by rw [hf1 _ _ (by simp)]; simp [go_sem]
  have HACC := hide hacc
  clear hc0 hf0 hc1 hf1 hx2 hacc HS hB x0 x1 y0 y1 z0 z1 hx
  go_wp2
  first | (go_region_with (first | (go_at_call 210; refine (fits_any _ _ _ _).mono ?_; rintro e w2 ⟨rfl, hb2⟩; have hq := below_undrew hb2; have xa' := bat hq hB1 xa; have xb' := bat hq hB1 xb; have yb' := bat hq hB1 yb; have zb' := bat hq hB1 zb; have T0' := bat hq hG T0; have T1' := bat hq hG T1; have F0' := ((bcell hq).2 _ _ hG).trans F0; have F1' := ((bcell hq).2 _ _ hG).trans F1; clear hb2))) | fail
  all_goals
    go_wp2
    refine bodyPost_ret (v := .tuple #[.agg (opKd ⟨17, ⟨kd, nu, st⟩, nm, ar⟩ ([⟨xk, xn⟩, ⟨yk, true⟩, ⟨zk, zn⟩] : List Kd)).1.cells.toArray, .bool (opKd ⟨17, ⟨kd, nu, st⟩, nm, ar⟩ ([⟨xk, xn⟩, ⟨yk, true⟩, ⟨zk, zn⟩] : List Kd)).2]) ?_ rfl ?_
    · first | (obtain ⟨S0, S1⟩ := made_two T0' T1'; simp [results, Tryz.results173, go_sem, S0, S1]) | (obtain ⟨S0, S1⟩ := made_two T0 T1; simp [results, Tryz.results173, go_sem, S0, S1]; done) | (obtain ⟨S0, S1⟩ := made_two T0 T1; simp [results, Tryz.results173, go_sem, S0, S1]; (simp [opKd, Kd.cells, hco]; done)) | (obtain ⟨S0, S1⟩ := made_two (w := w1.drew) (u0 := .int .i64 0) (u1 := .bool false) (by simpa using T0) (by simpa using T1); simp [results, Tryz.results173, go_sem, S0, S1])
      all_goals (simp [opKd, Kd.cells, hco])
    · exact ⟨rfl, by first | exact ((below_trans HACC.out hq).setCell (by simp <;> omega) _).setCell (by simp <;> omega) _ | exact (HACC.out.drew.setCell (by simp <;> omega) _).setCell (by simp <;> omega) _⟩
theorem typed_17 (kd nu ar : Int) (st nm : ByteArray) (w : World) (b off : Nat) (c : Nat) (x y z : Kd) (hx : In w (some ⟨b, off, none⟩) 3 c ([x, y, z] : List Kd)) :
    Calls Tryz.prog 173 #[.agg (ncells 17 kd nu st nm ar), .slice (some ⟨b, off, none⟩) 3 c] w fun e w' => e = .returned (.tuple #[.agg (opKd ⟨17, ⟨kd, nu, st⟩, nm, ar⟩ ([x, y, z] : List Kd)).1.cells.toArray, .bool (opKd ⟨17, ⟨kd, nu, st⟩, nm, ar⟩ ([x, y, z] : List Kd)).2]) ∧ Below w.heap.size w w' := by
  obtain ⟨yk, yn⟩ := y
  obtain ⟨zk, zn⟩ := z
  cases yn
  · cases hco : (common ⟨yk, false⟩ ⟨zk, zn⟩).2
    · exact typed_17_ff kd nu ar st nm w b off c x yk zk zn hco hx
    · exact typed_17_ft kd nu ar st nm w b off c x yk zk zn hco hx
  · cases hco : (common ⟨yk, true⟩ ⟨zk, zn⟩).2
    · exact typed_17_tf kd nu ar st nm w b off c x yk zk zn hco hx
    · exact typed_17_tt kd nu ar st nm w b off c x yk zk zn hco hx
end Go.Proofs.YtggejcekmehocaaGreatDoor
