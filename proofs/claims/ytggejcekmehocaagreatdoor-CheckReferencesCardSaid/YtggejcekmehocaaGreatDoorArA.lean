/-
  scalar.arithmetic: it returns arithV. (Printed by gen_arv.py.)
-/
import Derived.Test.YtggejcekmehocaaGreatDoorLogA
import Derived.Test.YtggejcekmehocaaGreatDoorGac
namespace Go.Proofs.YtggejcekmehocaaGreatDoor
open Go.RowKit
set_option linter.unusedSimpArgs false
set_option linter.unusedVariables false
set_option maxHeartbeats 2000000 in
set_option maxRecDepth 100000 in
theorem ari_4t (xk xn yk yn : Int) (xs ys : ByteArray) (hx : Bnd30 xn) (hy : Bnd30 yn) (hk : (xk == 4) = true) (w : World) :
    Calls Tryz.prog 180 #[.int .i64 4, .agg #[.int .i64 xk, .int .i64 xn, .string xs], .agg #[.int .i64 yk, .int .i64 yn, .string ys]] w fun e w' => e = .returned (.agg (arithV 4 ⟨xk, xn, xs⟩ ⟨yk, yn, ys⟩).cells.toArray) ∧ Below w.heap.size w w' := by
  have HV : Hid (arithV 4 ⟨xk, xn, xs⟩ ⟨yk, yn, ys⟩ = momV (xn + yn)) := hide (by simp only [arithV, Int.reduceEq, or_self, or_false, false_or, or_true, true_or, if_false, if_true]; rw [if_pos (by simpa using hk)])
  have w1 : IntKind.i64.wrap (xn + yn) = xn + yn := IntWalk.i64_in _ (by unfold Bnd30 at hx hy; omega)
  have w2 : IntKind.i64.wrap (xn - yn) = xn - yn := IntWalk.i64_in _ (by unfold Bnd30 at hx hy; omega)
  have HX := hide hx
  have HY := hide hy
  clear hx hy
  go_enter Tryz.func180, Tryz.ntmps180
  go_wp2_with fail
  obtain ⟨w0, hw0, X, Y, Z, hb0⟩ := start3 w xk xn yk yn xs ys
  rw [← hw0]
  clear hw0
  have hzx : w.heap.size < w0.heap.size := Nat.lt_trans (show w.heap.size < w.heap.size + 1 + 1 by omega) Z.out.lt
  have hzy : w.heap.size + 1 < w0.heap.size := Nat.lt_trans (show w.heap.size + 1 < w.heap.size + 1 + 1 by omega) Z.out.lt
  refine (momV_any (xn + yn) _).mono ?_
  rintro e w3 ⟨rfl, hb3⟩
  have Z := hide (Z.out.below hb3)
  have hb0 := below_trans hb0 hb3
  clear hb3
  obtain ⟨z0, z1, z2, f0, f1, f2, _⟩ := Z.out
  generalize hbv : momV (xn + yn) = bv
  obtain ⟨bk, bn, bs⟩ := bv
  have HBV := hide hbv
  clear hbv
  simp only [Val.cells]
  go_wp2
  refine bodyPost_ret (v := .agg (Val.cells ⟨bk, bn, bs⟩).toArray) (results_cells (cs := Val.cells ⟨bk, bn, bs⟩) rfl _ _ (w.heap.size + 1 + 1) _ rfl (set_three Z.out.c0 Z.out.c1 Z.out.c2) Tryz.underlying74 rfl (by kernel_rfl)) rfl ⟨by rw [HV.out, HBV.out], below_set3 hb0 (by omega) _ _ _⟩
set_option maxHeartbeats 2000000 in
set_option maxRecDepth 100000 in
theorem ari_4n (xk xn yk yn : Int) (xs ys : ByteArray) (hx : Bnd30 xn) (hy : Bnd30 yn) (hk : (xk == 4) = false) (w : World) :
    Calls Tryz.prog 180 #[.int .i64 4, .agg #[.int .i64 xk, .int .i64 xn, .string xs], .agg #[.int .i64 yk, .int .i64 yn, .string ys]] w fun e w' => e = .returned (.agg (arithV 4 ⟨xk, xn, xs⟩ ⟨yk, yn, ys⟩).cells.toArray) ∧ Below w.heap.size w w' := by
  have HV : Hid (arithV 4 ⟨xk, xn, xs⟩ ⟨yk, yn, ys⟩ = numV (addX xn yn).1 (addX xn yn).2) := hide (by simp only [arithV, Int.reduceEq, or_self, or_false, false_or, or_true, true_or, if_false, if_true]; rw [if_neg (by simpa using hk)])
  have w1 : IntKind.i64.wrap (xn + yn) = xn + yn := IntWalk.i64_in _ (by unfold Bnd30 at hx hy; omega)
  have w2 : IntKind.i64.wrap (xn - yn) = xn - yn := IntWalk.i64_in _ (by unfold Bnd30 at hx hy; omega)
  have HX := hide hx
  have HY := hide hy
  clear hx hy
  go_enter Tryz.func180, Tryz.ntmps180
  go_wp2_with fail
  obtain ⟨w0, hw0, X, Y, Z, hb0⟩ := start3 w xk xn yk yn xs ys
  rw [← hw0]
  clear hw0
  have hzx : w.heap.size < w0.heap.size := Nat.lt_trans (show w.heap.size < w.heap.size + 1 + 1 by omega) Z.out.lt
  have hzy : w.heap.size + 1 < w0.heap.size := Nat.lt_trans (show w.heap.size + 1 < w.heap.size + 1 + 1 by omega) Z.out.lt
  refine (add_any xn yn HX.out HY.out _).mono ?_
  rintro e w' ⟨rfl, rfl⟩
  go_wp2_with fail
  refine (numV_any _ _ _).mono ?_
  rintro e w3 ⟨rfl, hb3⟩
  have Z := hide (Z.out.below hb3)
  have hb0 := below_trans hb0 hb3
  clear hb3
  obtain ⟨z0, z1, z2, f0, f1, f2, _⟩ := Z.out
  generalize hbv : numV (addX xn yn).1 (addX xn yn).2 = bv
  obtain ⟨bk, bn, bs⟩ := bv
  have HBV := hide hbv
  clear hbv
  simp only [Val.cells]
  go_wp2
  refine bodyPost_ret (v := .agg (Val.cells ⟨bk, bn, bs⟩).toArray) (results_cells (cs := Val.cells ⟨bk, bn, bs⟩) rfl _ _ (w.heap.size + 1 + 1) _ rfl (set_three Z.out.c0 Z.out.c1 Z.out.c2) Tryz.underlying74 rfl (by kernel_rfl)) rfl ⟨by rw [HV.out, HBV.out], below_set3 hb0 (by omega) _ _ _⟩
set_option maxHeartbeats 2000000 in
set_option maxRecDepth 100000 in
theorem ari_5t (xk xn yk yn : Int) (xs ys : ByteArray) (hx : Bnd30 xn) (hy : Bnd30 yn) (hk : (xk == 4) = true) (hk2 : (yk == 2) = true) (w : World) :
    Calls Tryz.prog 180 #[.int .i64 5, .agg #[.int .i64 xk, .int .i64 xn, .string xs], .agg #[.int .i64 yk, .int .i64 yn, .string ys]] w fun e w' => e = .returned (.agg (arithV 5 ⟨xk, xn, xs⟩ ⟨yk, yn, ys⟩).cells.toArray) ∧ Below w.heap.size w w' := by
  have HV : Hid (arithV 5 ⟨xk, xn, xs⟩ ⟨yk, yn, ys⟩ = momV (xn - yn)) := hide (by simp only [arithV, Int.reduceEq, or_self, or_false, false_or, or_true, true_or, if_false, if_true]; rw [if_pos ⟨by simpa using hk, by simpa using hk2⟩])
  have w1 : IntKind.i64.wrap (xn + yn) = xn + yn := IntWalk.i64_in _ (by unfold Bnd30 at hx hy; omega)
  have w2 : IntKind.i64.wrap (xn - yn) = xn - yn := IntWalk.i64_in _ (by unfold Bnd30 at hx hy; omega)
  have HX := hide hx
  have HY := hide hy
  clear hx hy
  go_enter Tryz.func180, Tryz.ntmps180
  go_wp2_with fail
  obtain ⟨w0, hw0, X, Y, Z, hb0⟩ := start3 w xk xn yk yn xs ys
  rw [← hw0]
  clear hw0
  have hzx : w.heap.size < w0.heap.size := Nat.lt_trans (show w.heap.size < w.heap.size + 1 + 1 by omega) Z.out.lt
  have hzy : w.heap.size + 1 < w0.heap.size := Nat.lt_trans (show w.heap.size + 1 < w.heap.size + 1 + 1 by omega) Z.out.lt
  refine (momV_any (xn - yn) _).mono ?_
  rintro e w3 ⟨rfl, hb3⟩
  have Z := hide (Z.out.below hb3)
  have hb0 := below_trans hb0 hb3
  clear hb3
  obtain ⟨z0, z1, z2, f0, f1, f2, _⟩ := Z.out
  generalize hbv : momV (xn - yn) = bv
  obtain ⟨bk, bn, bs⟩ := bv
  have HBV := hide hbv
  clear hbv
  simp only [Val.cells]
  go_wp2
  refine bodyPost_ret (v := .agg (Val.cells ⟨bk, bn, bs⟩).toArray) (results_cells (cs := Val.cells ⟨bk, bn, bs⟩) rfl _ _ (w.heap.size + 1 + 1) _ rfl (set_three Z.out.c0 Z.out.c1 Z.out.c2) Tryz.underlying74 rfl (by kernel_rfl)) rfl ⟨by rw [HV.out, HBV.out], below_set3 hb0 (by omega) _ _ _⟩
set_option maxHeartbeats 2000000 in
set_option maxRecDepth 100000 in
theorem ari_5n (xk xn yk yn : Int) (xs ys : ByteArray) (hx : Bnd30 xn) (hy : Bnd30 yn) (hk : (xk == 4) = false) (w : World) :
    Calls Tryz.prog 180 #[.int .i64 5, .agg #[.int .i64 xk, .int .i64 xn, .string xs], .agg #[.int .i64 yk, .int .i64 yn, .string ys]] w fun e w' => e = .returned (.agg (arithV 5 ⟨xk, xn, xs⟩ ⟨yk, yn, ys⟩).cells.toArray) ∧ Below w.heap.size w w' := by
  have HV : Hid (arithV 5 ⟨xk, xn, xs⟩ ⟨yk, yn, ys⟩ = numV (subX xn yn).1 (subX xn yn).2) := hide (by simp only [arithV, Int.reduceEq, or_self, or_false, false_or, or_true, true_or, if_false, if_true]; rw [if_neg (fun h => by simp [h.1] at hk)])
  have w1 : IntKind.i64.wrap (xn + yn) = xn + yn := IntWalk.i64_in _ (by unfold Bnd30 at hx hy; omega)
  have w2 : IntKind.i64.wrap (xn - yn) = xn - yn := IntWalk.i64_in _ (by unfold Bnd30 at hx hy; omega)
  have HX := hide hx
  have HY := hide hy
  clear hx hy
  go_enter Tryz.func180, Tryz.ntmps180
  go_wp2_with fail
  obtain ⟨w0, hw0, X, Y, Z, hb0⟩ := start3 w xk xn yk yn xs ys
  rw [← hw0]
  clear hw0
  have hzx : w.heap.size < w0.heap.size := Nat.lt_trans (show w.heap.size < w.heap.size + 1 + 1 by omega) Z.out.lt
  have hzy : w.heap.size + 1 < w0.heap.size := Nat.lt_trans (show w.heap.size + 1 < w.heap.size + 1 + 1 by omega) Z.out.lt
  refine (sub_any xn yn HX.out HY.out _).mono ?_
  rintro e w' ⟨rfl, rfl⟩
  go_wp2_with fail
  refine (numV_any _ _ _).mono ?_
  rintro e w3 ⟨rfl, hb3⟩
  have Z := hide (Z.out.below hb3)
  have hb0 := below_trans hb0 hb3
  clear hb3
  obtain ⟨z0, z1, z2, f0, f1, f2, _⟩ := Z.out
  generalize hbv : numV (subX xn yn).1 (subX xn yn).2 = bv
  obtain ⟨bk, bn, bs⟩ := bv
  have HBV := hide hbv
  clear hbv
  simp only [Val.cells]
  go_wp2
  refine bodyPost_ret (v := .agg (Val.cells ⟨bk, bn, bs⟩).toArray) (results_cells (cs := Val.cells ⟨bk, bn, bs⟩) rfl _ _ (w.heap.size + 1 + 1) _ rfl (set_three Z.out.c0 Z.out.c1 Z.out.c2) Tryz.underlying74 rfl (by kernel_rfl)) rfl ⟨by rw [HV.out, HBV.out], below_set3 hb0 (by omega) _ _ _⟩
set_option maxHeartbeats 2000000 in
set_option maxRecDepth 100000 in
theorem ari_5m (xk xn yk yn : Int) (xs ys : ByteArray) (hx : Bnd30 xn) (hy : Bnd30 yn) (hk : (xk == 4) = true) (hk2 : (yk == 2) = false) (w : World) :
    Calls Tryz.prog 180 #[.int .i64 5, .agg #[.int .i64 xk, .int .i64 xn, .string xs], .agg #[.int .i64 yk, .int .i64 yn, .string ys]] w fun e w' => e = .returned (.agg (arithV 5 ⟨xk, xn, xs⟩ ⟨yk, yn, ys⟩).cells.toArray) ∧ Below w.heap.size w w' := by
  have HV : Hid (arithV 5 ⟨xk, xn, xs⟩ ⟨yk, yn, ys⟩ = numV (subX xn yn).1 (subX xn yn).2) := hide (by simp only [arithV, Int.reduceEq, or_self, or_false, false_or, or_true, true_or, if_false, if_true]; rw [if_neg (fun h => by simp [h.2] at hk2)])
  have w1 : IntKind.i64.wrap (xn + yn) = xn + yn := IntWalk.i64_in _ (by unfold Bnd30 at hx hy; omega)
  have w2 : IntKind.i64.wrap (xn - yn) = xn - yn := IntWalk.i64_in _ (by unfold Bnd30 at hx hy; omega)
  have HX := hide hx
  have HY := hide hy
  clear hx hy
  go_enter Tryz.func180, Tryz.ntmps180
  go_wp2_with fail
  obtain ⟨w0, hw0, X, Y, Z, hb0⟩ := start3 w xk xn yk yn xs ys
  rw [← hw0]
  clear hw0
  have hzx : w.heap.size < w0.heap.size := Nat.lt_trans (show w.heap.size < w.heap.size + 1 + 1 by omega) Z.out.lt
  have hzy : w.heap.size + 1 < w0.heap.size := Nat.lt_trans (show w.heap.size + 1 < w.heap.size + 1 + 1 by omega) Z.out.lt
  refine (sub_any xn yn HX.out HY.out _).mono ?_
  rintro e w' ⟨rfl, rfl⟩
  go_wp2_with fail
  refine (numV_any _ _ _).mono ?_
  rintro e w3 ⟨rfl, hb3⟩
  have Z := hide (Z.out.below hb3)
  have hb0 := below_trans hb0 hb3
  clear hb3
  obtain ⟨z0, z1, z2, f0, f1, f2, _⟩ := Z.out
  generalize hbv : numV (subX xn yn).1 (subX xn yn).2 = bv
  obtain ⟨bk, bn, bs⟩ := bv
  have HBV := hide hbv
  clear hbv
  simp only [Val.cells]
  go_wp2
  refine bodyPost_ret (v := .agg (Val.cells ⟨bk, bn, bs⟩).toArray) (results_cells (cs := Val.cells ⟨bk, bn, bs⟩) rfl _ _ (w.heap.size + 1 + 1) _ rfl (set_three Z.out.c0 Z.out.c1 Z.out.c2) Tryz.underlying74 rfl (by kernel_rfl)) rfl ⟨by rw [HV.out, HBV.out], below_set3 hb0 (by omega) _ _ _⟩
set_option maxHeartbeats 2000000 in
set_option maxRecDepth 100000 in
theorem ari_6 (xk xn yk yn : Int) (xs ys : ByteArray) (hx : Bnd30 xn) (hy : Bnd30 yn) (w : World) :
    Calls Tryz.prog 180 #[.int .i64 6, .agg #[.int .i64 xk, .int .i64 xn, .string xs], .agg #[.int .i64 yk, .int .i64 yn, .string ys]] w fun e w' => e = .returned (.agg (arithV 6 ⟨xk, xn, xs⟩ ⟨yk, yn, ys⟩).cells.toArray) ∧ Below w.heap.size w w' := by
  have HV : Hid (arithV 6 ⟨xk, xn, xs⟩ ⟨yk, yn, ys⟩ = numV (mulX xn yn).1 (mulX xn yn).2) := hide (by simp only [arithV, Int.reduceEq, or_self, or_false, false_or, or_true, true_or, if_false, if_true])
  have w1 : IntKind.i64.wrap (xn + yn) = xn + yn := IntWalk.i64_in _ (by unfold Bnd30 at hx hy; omega)
  have w2 : IntKind.i64.wrap (xn - yn) = xn - yn := IntWalk.i64_in _ (by unfold Bnd30 at hx hy; omega)
  have HX := hide hx
  have HY := hide hy
  clear hx hy
  go_enter Tryz.func180, Tryz.ntmps180
  go_wp2_with fail
  obtain ⟨w0, hw0, X, Y, Z, hb0⟩ := start3 w xk xn yk yn xs ys
  rw [← hw0]
  clear hw0
  have hzx : w.heap.size < w0.heap.size := Nat.lt_trans (show w.heap.size < w.heap.size + 1 + 1 by omega) Z.out.lt
  have hzy : w.heap.size + 1 < w0.heap.size := Nat.lt_trans (show w.heap.size + 1 < w.heap.size + 1 + 1 by omega) Z.out.lt
  refine (mul_any xn yn HX.out HY.out _).mono ?_
  rintro e w' ⟨rfl, rfl⟩
  go_wp2_with fail
  refine (numV_any _ _ _).mono ?_
  rintro e w3 ⟨rfl, hb3⟩
  have Z := hide (Z.out.below hb3)
  have hb0 := below_trans hb0 hb3
  clear hb3
  obtain ⟨z0, z1, z2, f0, f1, f2, _⟩ := Z.out
  generalize hbv : numV (mulX xn yn).1 (mulX xn yn).2 = bv
  obtain ⟨bk, bn, bs⟩ := bv
  have HBV := hide hbv
  clear hbv
  simp only [Val.cells]
  go_wp2
  refine bodyPost_ret (v := .agg (Val.cells ⟨bk, bn, bs⟩).toArray) (results_cells (cs := Val.cells ⟨bk, bn, bs⟩) rfl _ _ (w.heap.size + 1 + 1) _ rfl (set_three Z.out.c0 Z.out.c1 Z.out.c2) Tryz.underlying74 rfl (by kernel_rfl)) rfl ⟨by rw [HV.out, HBV.out], below_set3 hb0 (by omega) _ _ _⟩
set_option maxHeartbeats 2000000 in
set_option maxRecDepth 100000 in
theorem ari_7 (xk xn yk yn : Int) (xs ys : ByteArray) (hx : Bnd30 xn) (hy : Bnd30 yn) (w : World) :
    Calls Tryz.prog 180 #[.int .i64 7, .agg #[.int .i64 xk, .int .i64 xn, .string xs], .agg #[.int .i64 yk, .int .i64 yn, .string ys]] w fun e w' => e = .returned (.agg (arithV 7 ⟨xk, xn, xs⟩ ⟨yk, yn, ys⟩).cells.toArray) ∧ Below w.heap.size w w' := by
  have HV : Hid (arithV 7 ⟨xk, xn, xs⟩ ⟨yk, yn, ys⟩ = numV (divX xn yn).1 (divX xn yn).2) := hide (by simp only [arithV, Int.reduceEq, or_self, or_false, false_or, or_true, true_or, if_false, if_true])
  have w1 : IntKind.i64.wrap (xn + yn) = xn + yn := IntWalk.i64_in _ (by unfold Bnd30 at hx hy; omega)
  have w2 : IntKind.i64.wrap (xn - yn) = xn - yn := IntWalk.i64_in _ (by unfold Bnd30 at hx hy; omega)
  have HX := hide hx
  have HY := hide hy
  clear hx hy
  go_enter Tryz.func180, Tryz.ntmps180
  go_wp2_with fail
  obtain ⟨w0, hw0, X, Y, Z, hb0⟩ := start3 w xk xn yk yn xs ys
  rw [← hw0]
  clear hw0
  have hzx : w.heap.size < w0.heap.size := Nat.lt_trans (show w.heap.size < w.heap.size + 1 + 1 by omega) Z.out.lt
  have hzy : w.heap.size + 1 < w0.heap.size := Nat.lt_trans (show w.heap.size + 1 < w.heap.size + 1 + 1 by omega) Z.out.lt
  refine (div_any xn yn HX.out HY.out _).mono ?_
  rintro e w' ⟨rfl, hb2⟩
  have Z := hide (Z.out.below hb2)
  have hb0 := below_trans hb0 hb2
  clear hb2
  go_wp2_with fail
  refine (numV_any _ _ _).mono ?_
  rintro e w3 ⟨rfl, hb3⟩
  have Z := hide (Z.out.below hb3)
  have hb0 := below_trans hb0 hb3
  clear hb3
  obtain ⟨z0, z1, z2, f0, f1, f2, _⟩ := Z.out
  generalize hbv : numV (divX xn yn).1 (divX xn yn).2 = bv
  obtain ⟨bk, bn, bs⟩ := bv
  have HBV := hide hbv
  clear hbv
  simp only [Val.cells]
  go_wp2
  refine bodyPost_ret (v := .agg (Val.cells ⟨bk, bn, bs⟩).toArray) (results_cells (cs := Val.cells ⟨bk, bn, bs⟩) rfl _ _ (w.heap.size + 1 + 1) _ rfl (set_three Z.out.c0 Z.out.c1 Z.out.c2) Tryz.underlying74 rfl (by kernel_rfl)) rfl ⟨by rw [HV.out, HBV.out], below_set3 hb0 (by omega) _ _ _⟩
set_option maxHeartbeats 2000000 in
set_option maxRecDepth 100000 in
theorem ari_8 (xk xn yk yn : Int) (xs ys : ByteArray) (hx : Bnd30 xn) (hy : Bnd30 yn) (w : World) :
    Calls Tryz.prog 180 #[.int .i64 8, .agg #[.int .i64 xk, .int .i64 xn, .string xs], .agg #[.int .i64 yk, .int .i64 yn, .string ys]] w fun e w' => e = .returned (.agg (arithV 8 ⟨xk, xn, xs⟩ ⟨yk, yn, ys⟩).cells.toArray) ∧ Below w.heap.size w w' := by
  have HV : Hid (arithV 8 ⟨xk, xn, xs⟩ ⟨yk, yn, ys⟩ = numV (modX xn yn).1 (modX xn yn).2) := hide (by simp only [arithV, Int.reduceEq, or_self, or_false, false_or, or_true, true_or, if_false, if_true])
  have w1 : IntKind.i64.wrap (xn + yn) = xn + yn := IntWalk.i64_in _ (by unfold Bnd30 at hx hy; omega)
  have w2 : IntKind.i64.wrap (xn - yn) = xn - yn := IntWalk.i64_in _ (by unfold Bnd30 at hx hy; omega)
  have HX := hide hx
  have HY := hide hy
  clear hx hy
  go_enter Tryz.func180, Tryz.ntmps180
  go_wp2_with fail
  obtain ⟨w0, hw0, X, Y, Z, hb0⟩ := start3 w xk xn yk yn xs ys
  rw [← hw0]
  clear hw0
  have hzx : w.heap.size < w0.heap.size := Nat.lt_trans (show w.heap.size < w.heap.size + 1 + 1 by omega) Z.out.lt
  have hzy : w.heap.size + 1 < w0.heap.size := Nat.lt_trans (show w.heap.size + 1 < w.heap.size + 1 + 1 by omega) Z.out.lt
  refine (mod_any xn yn HX.out HY.out _).mono ?_
  rintro e w' ⟨rfl, hb2⟩
  have Z := hide (Z.out.below hb2)
  have hb0 := below_trans hb0 hb2
  clear hb2
  go_wp2_with fail
  refine (numV_any _ _ _).mono ?_
  rintro e w3 ⟨rfl, hb3⟩
  have Z := hide (Z.out.below hb3)
  have hb0 := below_trans hb0 hb3
  clear hb3
  obtain ⟨z0, z1, z2, f0, f1, f2, _⟩ := Z.out
  generalize hbv : numV (modX xn yn).1 (modX xn yn).2 = bv
  obtain ⟨bk, bn, bs⟩ := bv
  have HBV := hide hbv
  clear hbv
  simp only [Val.cells]
  go_wp2
  refine bodyPost_ret (v := .agg (Val.cells ⟨bk, bn, bs⟩).toArray) (results_cells (cs := Val.cells ⟨bk, bn, bs⟩) rfl _ _ (w.heap.size + 1 + 1) _ rfl (set_three Z.out.c0 Z.out.c1 Z.out.c2) Tryz.underlying74 rfl (by kernel_rfl)) rfl ⟨by rw [HV.out, HBV.out], below_set3 hb0 (by omega) _ _ _⟩
theorem arith_any (op : Int) (hop : 4 ≤ op ∧ op ≤ 8) (x y : Val) (hx : Bnd30 x.num) (hy : Bnd30 y.num) (w : World) :
    Calls Tryz.prog 180 #[.int .i64 op, .agg x.cells.toArray, .agg y.cells.toArray] w fun e w' => e = .returned (.agg (arithV op x y).cells.toArray) ∧ Below w.heap.size w w' := by
  obtain ⟨xk, xn, xs⟩ := x
  obtain ⟨yk, yn, ys⟩ := y
  obtain rfl | rfl | rfl | rfl | rfl : op = 4 ∨ op = 5 ∨ op = 6 ∨ op = 7 ∨ op = 8 := by omega
  · by_cases h : xk = 4
    · exact ari_4t xk xn yk yn xs ys hx hy (by simpa using h) w
    · exact ari_4n xk xn yk yn xs ys hx hy (by simpa using h) w
  · by_cases h : xk = 4
    · by_cases h2 : yk = 2
      · exact ari_5t xk xn yk yn xs ys hx hy (by simpa using h) (by simpa using h2) w
      · exact ari_5m xk xn yk yn xs ys hx hy (by simpa using h) (by simpa using h2) w
    · exact ari_5n xk xn yk yn xs ys hx hy (by simpa using h) w
  · exact ari_6 xk xn yk yn xs ys hx hy w
  · exact ari_7 xk xn yk yn xs ys hx hy w
  · exact ari_8 xk xn yk yn xs ys hx hy w
end Go.Proofs.YtggejcekmehocaaGreatDoor
