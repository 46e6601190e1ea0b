/-
  scalar.logic and warehouseref9.logic: they return logicV; a result block of three cells. (Printed by gen_logic.py.)
-/
import Derived.Test.YtggejcekmehocaaGreatDoorGac
namespace Go.Proofs.YtggejcekmehocaaGreatDoor
open Go.RowKit
set_option linter.unusedSimpArgs false
set_option linter.unusedVariables false
structure Zr (w : World) (g : Nat) : Prop where
  c0 : w.cell? ⟨g, 0, none⟩ = some (.int .i64 0)
  c1 : w.cell? ⟨g, 1, none⟩ = some (.int .i64 0)
  c2 : w.cell? ⟨g, 2, none⟩ = some (.string ⟨#[]⟩)
  f0 : w.frozen? ⟨g, 0, none⟩ = false
  f1 : w.frozen? ⟨g, 1, none⟩ = false
  f2 : w.frozen? ⟨g, 2, none⟩ = false
  lt : g < w.heap.size
theorem Zr.below {w w' : World} {g : Nat} (h : Zr w g) (hb : Below w.heap.size w w') : Zr w' g :=
  ⟨bat hb h.lt h.c0, bat hb h.lt h.c1, bat hb h.lt h.c2, ((bcell hb).2 _ _ h.lt).trans h.f0, ((bcell hb).2 _ _ h.lt).trans h.f1, ((bcell hb).2 _ _ h.lt).trans h.f2, by have := hb.size; have := h.lt; omega⟩
theorem Zr.made (w : World) (t : TypeId) : Zr (w.alloc (.cells #[.int .i64 0, .int .i64 0, .string ⟨#[]⟩] t)) w.heap.size := by
  constructor <;> simp [go_sem]
def V3 (w : World) (b o : Nat) (v : Val) : Prop := w.cell? ⟨b, o, none⟩ = some (.int .i64 v.kind) ∧ w.cell? ⟨b, o + 1, none⟩ = some (.int .i64 v.num) ∧ w.cell? ⟨b, o + 2, none⟩ = some (.string v.str)
theorem V3.below {w w' : World} {b o : Nat} {v : Val} (h : V3 w b o v) (hb : Below w.heap.size w w') (hl : b < w.heap.size) : V3 w' b o v := ⟨bat hb hl h.1, bat hb hl h.2.1, bat hb hl h.2.2⟩
theorem below_alloc3 {w : World} {o o' o'' : Obj} : Below w.heap.size w (((w.alloc o).alloc o').alloc o'') := below_trans below_alloc2 below_alloc
theorem start3 (w : World) (xk xn yk yn : Int) (xs ys : ByteArray) : ∃ w0, w0 = (((w.alloc (.cells #[.int .i64 xk, .int .i64 xn, .string xs] 74)).alloc (.cells #[.int .i64 yk, .int .i64 yn, .string ys] 74)).alloc (.cells #[.int .i64 0, .int .i64 0, .string ⟨#[]⟩] 74)) ∧
    V3 w0 w.heap.size 0 ⟨xk, xn, xs⟩ ∧ V3 w0 (w.heap.size + 1) 0 ⟨yk, yn, ys⟩ ∧ Hid (Zr w0 (w.heap.size + 1 + 1)) ∧ Below w.heap.size w w0 := by
  refine ⟨_, rfl, ?_, ?_, ?_, below_alloc3⟩
  · exact V3.below (w := w.alloc (.cells #[.int .i64 xk, .int .i64 xn, .string xs] 74)) ⟨by simp [go_sem], by simp [go_sem], by simp [go_sem]⟩ below_alloc2 (by simp)
  · exact V3.below (w := (w.alloc (.cells #[.int .i64 xk, .int .i64 xn, .string xs] 74)).alloc (.cells #[.int .i64 yk, .int .i64 yn, .string ys] 74)) ⟨by simp [go_sem], by simp [go_sem], by simp [go_sem]⟩ below_alloc (by simp)
  · exact hide (by have := Zr.made ((w.alloc (.cells #[.int .i64 xk, .int .i64 xn, .string xs] 74)).alloc (.cells #[.int .i64 yk, .int .i64 yn, .string ys] 74)) 74; simpa using this)
theorem startN (w : World) (op kd nu ar : Int) (st nm : ByteArray) : ∃ w0, w0 = ((w.alloc (.cells #[.int .i64 op, .int .i64 kd, .int .i64 nu, .string st, .string nm, .int .i64 ar] 77)).alloc (.cells #[.int .i64 0, .int .i64 0, .string ⟨#[]⟩] 74)) ∧ Hid (Zr w0 (w.heap.size + 1)) ∧
    w0.cell? ⟨w.heap.size, 0, none⟩ = some (.int .i64 op) ∧ w0.cell? ⟨w.heap.size, 1, none⟩ = some (.int .i64 kd) ∧ w0.cell? ⟨w.heap.size, 2, none⟩ = some (.int .i64 nu) ∧ w0.cell? ⟨w.heap.size, 3, none⟩ = some (.string st) ∧ w0.cell? ⟨w.heap.size, 4, none⟩ = some (.string nm) ∧ w0.cell? ⟨w.heap.size, 5, none⟩ = some (.int .i64 ar) ∧ Below w.heap.size w w0 :=
  ⟨_, rfl, hide (by have := Zr.made (w.alloc (.cells #[.int .i64 op, .int .i64 kd, .int .i64 nu, .string st, .string nm, .int .i64 ar] 77)) 74; simpa using this), by simp [go_sem], by simp [go_sem], by simp [go_sem], by simp [go_sem], by simp [go_sem], by simp [go_sem], below_alloc2⟩
theorem below_set3 {B g : Nat} {w w' : World} (h : Below B w w') (hg : B ≤ g) (u v x : Value) : Below B w (((w'.setCell ⟨g, 0, none⟩ u).setCell ⟨g, 1, none⟩ v).setCell ⟨g, 2, none⟩ x) := ((h.setCell hg _).setCell hg _).setCell hg _
theorem truth_any_3 (k n : Int) (s : ByteArray) (h : Val.ok ⟨k, n, s⟩) (w : World) : Calls Tryz.prog 104 #[.agg #[.int .i64 k, .int .i64 n, .string s]] w fun e w' => e = .returned (.int .i64 (truth ⟨k, n, s⟩)) ∧ Below w.heap.size w w' := truth_any ⟨k, n, s⟩ h w
set_option maxHeartbeats 2000000 in
set_option maxRecDepth 100000 in
theorem logic_any_s1 (xk xn yk yn s : Int) (xs ys : ByteArray) (hx : Val.ok ⟨xk, xn, xs⟩) (hy : Val.ok ⟨yk, yn, ys⟩) (q1 : (truth ⟨xk, xn, xs⟩ == s) = true) (w : World) :
    Calls Tryz.prog 174 #[.agg #[.int .i64 xk, .int .i64 xn, .string xs], .agg #[.int .i64 yk, .int .i64 yn, .string ys], .int .i64 s] w fun e w' => e = .returned (.agg (logicV ⟨xk, xn, xs⟩ ⟨yk, yn, ys⟩ s).cells.toArray) ∧ Below w.heap.size w w' := by
  have HV : Hid (logicV ⟨xk, xn, xs⟩ ⟨yk, yn, ys⟩ s = boolV (s == 1)) := hide (by rw [logicV, if_pos (.inl (by simpa using q1))])
  have HX := hide hx
  have HY := hide hy
  clear hx hy
  obtain ⟨p, hp⟩ : ∃ p, truth ⟨xk, xn, xs⟩ = p := ⟨_, rfl⟩
  obtain ⟨q, hq⟩ : ∃ q, truth ⟨yk, yn, ys⟩ = q := ⟨_, rfl⟩
  rw [hp] at *
  (try rw [hq] at *)
  have HP := hide hp
  have HQ := hide hq
  clear hp hq
  go_enter Tryz.func174, Tryz.ntmps174
  go_wp2
  obtain ⟨w0, hw0, X, Y, Z, hb0⟩ := start3 w xk xn yk yn xs ys
  rw [← hw0]
  clear hw0
  have hzx : w.heap.size < w0.heap.size := Nat.lt_trans (show w.heap.size < w.heap.size + 1 + 1 by omega) Z.out.lt
  have hzy : w.heap.size + 1 < w0.heap.size := Nat.lt_trans (show w.heap.size + 1 < w.heap.size + 1 + 1 by omega) Z.out.lt
  obtain ⟨x0, x1, x2⟩ := X
  obtain ⟨y0, y1, y2⟩ := Y
  simp only [Nat.zero_add] at x1 x2 y1 y2
  go_region_held3 (fun V => V.cell? ⟨w.heap.size, 0, none⟩ = some (.int .i64 xk) ∧ V.cell? ⟨w.heap.size, 1, none⟩ = some (.int .i64 xn) ∧ V.cell? ⟨w.heap.size, 2, none⟩ = some (.string xs) ∧ V.cell? ⟨w.heap.size + 1, 0, none⟩ = some (.int .i64 yk) ∧ V.cell? ⟨w.heap.size + 1, 1, none⟩ = some (.int .i64 yn) ∧ V.cell? ⟨w.heap.size + 1, 2, none⟩ = some (.string ys)) (first | exact ⟨x0, x1, x2, y0, y1, y2⟩) (first | (go_at_call 104; refine (truth_any_3 _ _ _ (by first | exact HX.out | exact HY.out) _).mono ?_; rintro e w1 ⟨rfl, hb1⟩; (try rw [HP.out]); (try rw [HQ.out]); have Z : Hid (Zr w1 (w.heap.size + 1 + 1)) := hide (by first | exact Z.out.below (below_undrew hb1) | exact Z.out.below hb1); have x0 : w1.cell? ⟨w.heap.size, 0, none⟩ = some (.int .i64 xk) := (by first | exact bat (below_undrew hb1) hzx x0 | exact bat hb1 hzx x0); have x1 : w1.cell? ⟨w.heap.size, 1, none⟩ = some (.int .i64 xn) := (by first | exact bat (below_undrew hb1) hzx x1 | exact bat hb1 hzx x1); have x2 : w1.cell? ⟨w.heap.size, 2, none⟩ = some (.string xs) := (by first | exact bat (below_undrew hb1) hzx x2 | exact bat hb1 hzx x2); have y0 : w1.cell? ⟨w.heap.size + 1, 0, none⟩ = some (.int .i64 yk) := (by first | exact bat (below_undrew hb1) hzy y0 | exact bat hb1 hzy y0); have y1 : w1.cell? ⟨w.heap.size + 1, 1, none⟩ = some (.int .i64 yn) := (by first | exact bat (below_undrew hb1) hzy y1 | exact bat hb1 hzy y1); have y2 : w1.cell? ⟨w.heap.size + 1, 2, none⟩ = some (.string ys) := (by first | exact bat (below_undrew hb1) hzy y2 | exact bat hb1 hzy y2); have hb0 : Below w.heap.size w w1 := (by first | exact below_trans hb0 (below_undrew hb1) | exact below_trans hb0 hb1); have hzx : w.heap.size < w1.heap.size := Nat.lt_trans (show w.heap.size < w.heap.size + 1 + 1 by omega) Z.out.lt; have hzy : w.heap.size + 1 < w1.heap.size := Nat.lt_trans (show w.heap.size + 1 < w.heap.size + 1 + 1 by omega) Z.out.lt; clear hb1))
  all_goals
    clear x0 x1 x2 y0 y1 y2
    go_wp2_with (go_at_call 175; refine (boolV_any (s == 1) _).mono ?_; rintro e w3 ⟨rfl, hb3⟩; have Z := hide (Z.out.below hb3); have hb0 := below_trans hb0 hb3; clear hb3; obtain ⟨z0, z1, z2, f0, f1, f2, _⟩ := Z.out; generalize hbv : boolV (s == 1) = bv; obtain ⟨bk, bn, bs⟩ := bv; have HBV := hide hbv; clear hbv; simp only [Val.cells])
    refine bodyPost_ret (v := .agg (Val.cells ⟨bk, bn, bs⟩).toArray) (results_cells (cs := Val.cells ⟨bk, bn, bs⟩) rfl _ _ (w.heap.size + 1 + 1) _ rfl (set_three Z.out.c0 Z.out.c1 Z.out.c2) Tryz.underlying74 rfl (by kernel_rfl)) rfl ⟨by rw [HV.out, HBV.out], below_set3 hb0 (by omega) _ _ _⟩
set_option maxHeartbeats 2000000 in
set_option maxRecDepth 100000 in
theorem logic_any_s2 (xk xn yk yn s : Int) (xs ys : ByteArray) (hx : Val.ok ⟨xk, xn, xs⟩) (hy : Val.ok ⟨yk, yn, ys⟩) (q1 : (truth ⟨xk, xn, xs⟩ == s) = false) (q2 : (truth ⟨yk, yn, ys⟩ == s) = true) (w : World) :
    Calls Tryz.prog 174 #[.agg #[.int .i64 xk, .int .i64 xn, .string xs], .agg #[.int .i64 yk, .int .i64 yn, .string ys], .int .i64 s] w fun e w' => e = .returned (.agg (logicV ⟨xk, xn, xs⟩ ⟨yk, yn, ys⟩ s).cells.toArray) ∧ Below w.heap.size w w' := by
  have HV : Hid (logicV ⟨xk, xn, xs⟩ ⟨yk, yn, ys⟩ s = boolV (s == 1)) := hide (by rw [logicV, if_pos (.inr (by simpa using q2))])
  have HX := hide hx
  have HY := hide hy
  clear hx hy
  obtain ⟨p, hp⟩ : ∃ p, truth ⟨xk, xn, xs⟩ = p := ⟨_, rfl⟩
  obtain ⟨q, hq⟩ : ∃ q, truth ⟨yk, yn, ys⟩ = q := ⟨_, rfl⟩
  rw [hp] at *
  (try rw [hq] at *)
  have HP := hide hp
  have HQ := hide hq
  clear hp hq
  go_enter Tryz.func174, Tryz.ntmps174
  go_wp2
  obtain ⟨w0, hw0, X, Y, Z, hb0⟩ := start3 w xk xn yk yn xs ys
  rw [← hw0]
  clear hw0
  have hzx : w.heap.size < w0.heap.size := Nat.lt_trans (show w.heap.size < w.heap.size + 1 + 1 by omega) Z.out.lt
  have hzy : w.heap.size + 1 < w0.heap.size := Nat.lt_trans (show w.heap.size + 1 < w.heap.size + 1 + 1 by omega) Z.out.lt
  obtain ⟨x0, x1, x2⟩ := X
  obtain ⟨y0, y1, y2⟩ := Y
  simp only [Nat.zero_add] at x1 x2 y1 y2
  go_region_held3 (fun V => V.cell? ⟨w.heap.size, 0, none⟩ = some (.int .i64 xk) ∧ V.cell? ⟨w.heap.size, 1, none⟩ = some (.int .i64 xn) ∧ V.cell? ⟨w.heap.size, 2, none⟩ = some (.string xs) ∧ V.cell? ⟨w.heap.size + 1, 0, none⟩ = some (.int .i64 yk) ∧ V.cell? ⟨w.heap.size + 1, 1, none⟩ = some (.int .i64 yn) ∧ V.cell? ⟨w.heap.size + 1, 2, none⟩ = some (.string ys)) (first | exact ⟨x0, x1, x2, y0, y1, y2⟩) (first | (go_at_call 104; refine (truth_any_3 _ _ _ (by first | exact HX.out | exact HY.out) _).mono ?_; rintro e w1 ⟨rfl, hb1⟩; (try rw [HP.out]); (try rw [HQ.out]); have Z : Hid (Zr w1 (w.heap.size + 1 + 1)) := hide (by first | exact Z.out.below (below_undrew hb1) | exact Z.out.below hb1); have x0 : w1.cell? ⟨w.heap.size, 0, none⟩ = some (.int .i64 xk) := (by first | exact bat (below_undrew hb1) hzx x0 | exact bat hb1 hzx x0); have x1 : w1.cell? ⟨w.heap.size, 1, none⟩ = some (.int .i64 xn) := (by first | exact bat (below_undrew hb1) hzx x1 | exact bat hb1 hzx x1); have x2 : w1.cell? ⟨w.heap.size, 2, none⟩ = some (.string xs) := (by first | exact bat (below_undrew hb1) hzx x2 | exact bat hb1 hzx x2); have y0 : w1.cell? ⟨w.heap.size + 1, 0, none⟩ = some (.int .i64 yk) := (by first | exact bat (below_undrew hb1) hzy y0 | exact bat hb1 hzy y0); have y1 : w1.cell? ⟨w.heap.size + 1, 1, none⟩ = some (.int .i64 yn) := (by first | exact bat (below_undrew hb1) hzy y1 | exact bat hb1 hzy y1); have y2 : w1.cell? ⟨w.heap.size + 1, 2, none⟩ = some (.string ys) := (by first | exact bat (below_undrew hb1) hzy y2 | exact bat hb1 hzy y2); have hb0 : Below w.heap.size w w1 := (by first | exact below_trans hb0 (below_undrew hb1) | exact below_trans hb0 hb1); have hzx : w.heap.size < w1.heap.size := Nat.lt_trans (show w.heap.size < w.heap.size + 1 + 1 by omega) Z.out.lt; have hzy : w.heap.size + 1 < w1.heap.size := Nat.lt_trans (show w.heap.size + 1 < w.heap.size + 1 + 1 by omega) Z.out.lt; clear hb1))
  all_goals
    clear x0 x1 x2 y0 y1 y2
    go_wp2_with (go_at_call 175; refine (boolV_any (s == 1) _).mono ?_; rintro e w3 ⟨rfl, hb3⟩; have Z := hide (Z.out.below hb3); have hb0 := below_trans hb0 hb3; clear hb3; obtain ⟨z0, z1, z2, f0, f1, f2, _⟩ := Z.out; generalize hbv : boolV (s == 1) = bv; obtain ⟨bk, bn, bs⟩ := bv; have HBV := hide hbv; clear hbv; simp only [Val.cells])
    refine bodyPost_ret (v := .agg (Val.cells ⟨bk, bn, bs⟩).toArray) (results_cells (cs := Val.cells ⟨bk, bn, bs⟩) rfl _ _ (w.heap.size + 1 + 1) _ rfl (set_three Z.out.c0 Z.out.c1 Z.out.c2) Tryz.underlying74 rfl (by kernel_rfl)) rfl ⟨by rw [HV.out, HBV.out], below_set3 hb0 (by omega) _ _ _⟩
set_option maxHeartbeats 2000000 in
set_option maxRecDepth 100000 in
theorem logic_any_n1 (xk xn yk yn s : Int) (xs ys : ByteArray) (hx : Val.ok ⟨xk, xn, xs⟩) (hy : Val.ok ⟨yk, yn, ys⟩) (q1 : (truth ⟨xk, xn, xs⟩ == s) = false) (q2 : (truth ⟨yk, yn, ys⟩ == s) = false) (q3 : truth ⟨xk, xn, xs⟩ < 0) (w : World) :
    Calls Tryz.prog 174 #[.agg #[.int .i64 xk, .int .i64 xn, .string xs], .agg #[.int .i64 yk, .int .i64 yn, .string ys], .int .i64 s] w fun e w' => e = .returned (.agg (logicV ⟨xk, xn, xs⟩ ⟨yk, yn, ys⟩ s).cells.toArray) ∧ Below w.heap.size w w' := by
  have HV : Hid (logicV ⟨xk, xn, xs⟩ ⟨yk, yn, ys⟩ s = nullV) := hide (by rw [logicV, if_neg (by rintro (h | h) <;> simp_all), if_pos (.inl q3)])
  have HX := hide hx
  have HY := hide hy
  clear hx hy
  obtain ⟨p, hp⟩ : ∃ p, truth ⟨xk, xn, xs⟩ = p := ⟨_, rfl⟩
  obtain ⟨q, hq⟩ : ∃ q, truth ⟨yk, yn, ys⟩ = q := ⟨_, rfl⟩
  rw [hp] at *
  (try rw [hq] at *)
  have HP := hide hp
  have HQ := hide hq
  clear hp hq
  go_enter Tryz.func174, Tryz.ntmps174
  go_wp2
  obtain ⟨w0, hw0, X, Y, Z, hb0⟩ := start3 w xk xn yk yn xs ys
  rw [← hw0]
  clear hw0
  have hzx : w.heap.size < w0.heap.size := Nat.lt_trans (show w.heap.size < w.heap.size + 1 + 1 by omega) Z.out.lt
  have hzy : w.heap.size + 1 < w0.heap.size := Nat.lt_trans (show w.heap.size + 1 < w.heap.size + 1 + 1 by omega) Z.out.lt
  obtain ⟨x0, x1, x2⟩ := X
  obtain ⟨y0, y1, y2⟩ := Y
  simp only [Nat.zero_add] at x1 x2 y1 y2
  go_region_held3 (fun V => V.cell? ⟨w.heap.size, 0, none⟩ = some (.int .i64 xk) ∧ V.cell? ⟨w.heap.size, 1, none⟩ = some (.int .i64 xn) ∧ V.cell? ⟨w.heap.size, 2, none⟩ = some (.string xs) ∧ V.cell? ⟨w.heap.size + 1, 0, none⟩ = some (.int .i64 yk) ∧ V.cell? ⟨w.heap.size + 1, 1, none⟩ = some (.int .i64 yn) ∧ V.cell? ⟨w.heap.size + 1, 2, none⟩ = some (.string ys)) (first | exact ⟨x0, x1, x2, y0, y1, y2⟩) (first | (go_at_call 104; refine (truth_any_3 _ _ _ (by first | exact HX.out | exact HY.out) _).mono ?_; rintro e w1 ⟨rfl, hb1⟩; (try rw [HP.out]); (try rw [HQ.out]); have Z : Hid (Zr w1 (w.heap.size + 1 + 1)) := hide (by first | exact Z.out.below (below_undrew hb1) | exact Z.out.below hb1); have x0 : w1.cell? ⟨w.heap.size, 0, none⟩ = some (.int .i64 xk) := (by first | exact bat (below_undrew hb1) hzx x0 | exact bat hb1 hzx x0); have x1 : w1.cell? ⟨w.heap.size, 1, none⟩ = some (.int .i64 xn) := (by first | exact bat (below_undrew hb1) hzx x1 | exact bat hb1 hzx x1); have x2 : w1.cell? ⟨w.heap.size, 2, none⟩ = some (.string xs) := (by first | exact bat (below_undrew hb1) hzx x2 | exact bat hb1 hzx x2); have y0 : w1.cell? ⟨w.heap.size + 1, 0, none⟩ = some (.int .i64 yk) := (by first | exact bat (below_undrew hb1) hzy y0 | exact bat hb1 hzy y0); have y1 : w1.cell? ⟨w.heap.size + 1, 1, none⟩ = some (.int .i64 yn) := (by first | exact bat (below_undrew hb1) hzy y1 | exact bat hb1 hzy y1); have y2 : w1.cell? ⟨w.heap.size + 1, 2, none⟩ = some (.string ys) := (by first | exact bat (below_undrew hb1) hzy y2 | exact bat hb1 hzy y2); have hb0 : Below w.heap.size w w1 := (by first | exact below_trans hb0 (below_undrew hb1) | exact below_trans hb0 hb1); have hzx : w.heap.size < w1.heap.size := Nat.lt_trans (show w.heap.size < w.heap.size + 1 + 1 by omega) Z.out.lt; have hzy : w.heap.size + 1 < w1.heap.size := Nat.lt_trans (show w.heap.size + 1 < w.heap.size + 1 + 1 by omega) Z.out.lt; clear hb1))
  all_goals
    clear x0 x1 x2 y0 y1 y2
    obtain ⟨z0, z1, z2, f0, f1, f2, _⟩ := Z.out
    go_wp2
    refine bodyPost_ret (v := .agg (Val.cells nullV).toArray) (results_cells (cs := Val.cells nullV) rfl _ _ (w.heap.size + 1 + 1) _ rfl (set_three Z.out.c0 Z.out.c1 Z.out.c2) Tryz.underlying74 rfl (by kernel_rfl)) rfl ⟨by rw [HV.out], below_set3 hb0 (by omega) _ _ _⟩
set_option maxHeartbeats 2000000 in
set_option maxRecDepth 100000 in
theorem logic_any_n2 (xk xn yk yn s : Int) (xs ys : ByteArray) (hx : Val.ok ⟨xk, xn, xs⟩) (hy : Val.ok ⟨yk, yn, ys⟩) (q1 : (truth ⟨xk, xn, xs⟩ == s) = false) (q2 : (truth ⟨yk, yn, ys⟩ == s) = false) (q3 : 0 ≤ truth ⟨xk, xn, xs⟩) (q4 : truth ⟨yk, yn, ys⟩ < 0) (w : World) :
    Calls Tryz.prog 174 #[.agg #[.int .i64 xk, .int .i64 xn, .string xs], .agg #[.int .i64 yk, .int .i64 yn, .string ys], .int .i64 s] w fun e w' => e = .returned (.agg (logicV ⟨xk, xn, xs⟩ ⟨yk, yn, ys⟩ s).cells.toArray) ∧ Below w.heap.size w w' := by
  have HV : Hid (logicV ⟨xk, xn, xs⟩ ⟨yk, yn, ys⟩ s = nullV) := hide (by rw [logicV, if_neg (by rintro (h | h) <;> simp_all), if_pos (.inr q4)])
  have HX := hide hx
  have HY := hide hy
  clear hx hy
  obtain ⟨p, hp⟩ : ∃ p, truth ⟨xk, xn, xs⟩ = p := ⟨_, rfl⟩
  obtain ⟨q, hq⟩ : ∃ q, truth ⟨yk, yn, ys⟩ = q := ⟨_, rfl⟩
  rw [hp] at *
  (try rw [hq] at *)
  have HP := hide hp
  have HQ := hide hq
  clear hp hq
  go_enter Tryz.func174, Tryz.ntmps174
  go_wp2
  obtain ⟨w0, hw0, X, Y, Z, hb0⟩ := start3 w xk xn yk yn xs ys
  rw [← hw0]
  clear hw0
  have hzx : w.heap.size < w0.heap.size := Nat.lt_trans (show w.heap.size < w.heap.size + 1 + 1 by omega) Z.out.lt
  have hzy : w.heap.size + 1 < w0.heap.size := Nat.lt_trans (show w.heap.size + 1 < w.heap.size + 1 + 1 by omega) Z.out.lt
  obtain ⟨x0, x1, x2⟩ := X
  obtain ⟨y0, y1, y2⟩ := Y
  simp only [Nat.zero_add] at x1 x2 y1 y2
  go_region_held3 (fun V => V.cell? ⟨w.heap.size, 0, none⟩ = some (.int .i64 xk) ∧ V.cell? ⟨w.heap.size, 1, none⟩ = some (.int .i64 xn) ∧ V.cell? ⟨w.heap.size, 2, none⟩ = some (.string xs) ∧ V.cell? ⟨w.heap.size + 1, 0, none⟩ = some (.int .i64 yk) ∧ V.cell? ⟨w.heap.size + 1, 1, none⟩ = some (.int .i64 yn) ∧ V.cell? ⟨w.heap.size + 1, 2, none⟩ = some (.string ys)) (first | exact ⟨x0, x1, x2, y0, y1, y2⟩) (first | (go_at_call 104; refine (truth_any_3 _ _ _ (by first | exact HX.out | exact HY.out) _).mono ?_; rintro e w1 ⟨rfl, hb1⟩; (try rw [HP.out]); (try rw [HQ.out]); have Z : Hid (Zr w1 (w.heap.size + 1 + 1)) := hide (by first | exact Z.out.below (below_undrew hb1) | exact Z.out.below hb1); have x0 : w1.cell? ⟨w.heap.size, 0, none⟩ = some (.int .i64 xk) := (by first | exact bat (below_undrew hb1) hzx x0 | exact bat hb1 hzx x0); have x1 : w1.cell? ⟨w.heap.size, 1, none⟩ = some (.int .i64 xn) := (by first | exact bat (below_undrew hb1) hzx x1 | exact bat hb1 hzx x1); have x2 : w1.cell? ⟨w.heap.size, 2, none⟩ = some (.string xs) := (by first | exact bat (below_undrew hb1) hzx x2 | exact bat hb1 hzx x2); have y0 : w1.cell? ⟨w.heap.size + 1, 0, none⟩ = some (.int .i64 yk) := (by first | exact bat (below_undrew hb1) hzy y0 | exact bat hb1 hzy y0); have y1 : w1.cell? ⟨w.heap.size + 1, 1, none⟩ = some (.int .i64 yn) := (by first | exact bat (below_undrew hb1) hzy y1 | exact bat hb1 hzy y1); have y2 : w1.cell? ⟨w.heap.size + 1, 2, none⟩ = some (.string ys) := (by first | exact bat (below_undrew hb1) hzy y2 | exact bat hb1 hzy y2); have hb0 : Below w.heap.size w w1 := (by first | exact below_trans hb0 (below_undrew hb1) | exact below_trans hb0 hb1); have hzx : w.heap.size < w1.heap.size := Nat.lt_trans (show w.heap.size < w.heap.size + 1 + 1 by omega) Z.out.lt; have hzy : w.heap.size + 1 < w1.heap.size := Nat.lt_trans (show w.heap.size + 1 < w.heap.size + 1 + 1 by omega) Z.out.lt; clear hb1))
  all_goals
    clear x0 x1 x2 y0 y1 y2
    obtain ⟨z0, z1, z2, f0, f1, f2, _⟩ := Z.out
    go_wp2
    refine bodyPost_ret (v := .agg (Val.cells nullV).toArray) (results_cells (cs := Val.cells nullV) rfl _ _ (w.heap.size + 1 + 1) _ rfl (set_three Z.out.c0 Z.out.c1 Z.out.c2) Tryz.underlying74 rfl (by kernel_rfl)) rfl ⟨by rw [HV.out], below_set3 hb0 (by omega) _ _ _⟩
set_option maxHeartbeats 2000000 in
set_option maxRecDepth 100000 in
theorem logic_any_go (xk xn yk yn s : Int) (xs ys : ByteArray) (hx : Val.ok ⟨xk, xn, xs⟩) (hy : Val.ok ⟨yk, yn, ys⟩) (q1 : (truth ⟨xk, xn, xs⟩ == s) = false) (q2 : (truth ⟨yk, yn, ys⟩ == s) = false) (q3 : 0 ≤ truth ⟨xk, xn, xs⟩) (q4 : 0 ≤ truth ⟨yk, yn, ys⟩) (w : World) :
    Calls Tryz.prog 174 #[.agg #[.int .i64 xk, .int .i64 xn, .string xs], .agg #[.int .i64 yk, .int .i64 yn, .string ys], .int .i64 s] w fun e w' => e = .returned (.agg (logicV ⟨xk, xn, xs⟩ ⟨yk, yn, ys⟩ s).cells.toArray) ∧ Below w.heap.size w w' := by
  have HV : Hid (logicV ⟨xk, xn, xs⟩ ⟨yk, yn, ys⟩ s = boolV (s == 0)) := hide (by rw [logicV, if_neg (by rintro (h | h) <;> simp_all), if_neg (by omega)])
  have HX := hide hx
  have HY := hide hy
  clear hx hy
  obtain ⟨p, hp⟩ : ∃ p, truth ⟨xk, xn, xs⟩ = p := ⟨_, rfl⟩
  obtain ⟨q, hq⟩ : ∃ q, truth ⟨yk, yn, ys⟩ = q := ⟨_, rfl⟩
  rw [hp] at *
  (try rw [hq] at *)
  have HP := hide hp
  have HQ := hide hq
  clear hp hq
  go_enter Tryz.func174, Tryz.ntmps174
  go_wp2
  obtain ⟨w0, hw0, X, Y, Z, hb0⟩ := start3 w xk xn yk yn xs ys
  rw [← hw0]
  clear hw0
  have hzx : w.heap.size < w0.heap.size := Nat.lt_trans (show w.heap.size < w.heap.size + 1 + 1 by omega) Z.out.lt
  have hzy : w.heap.size + 1 < w0.heap.size := Nat.lt_trans (show w.heap.size + 1 < w.heap.size + 1 + 1 by omega) Z.out.lt
  obtain ⟨x0, x1, x2⟩ := X
  obtain ⟨y0, y1, y2⟩ := Y
  simp only [Nat.zero_add] at x1 x2 y1 y2
  go_region_held3 (fun V => V.cell? ⟨w.heap.size, 0, none⟩ = some (.int .i64 xk) ∧ V.cell? ⟨w.heap.size, 1, none⟩ = some (.int .i64 xn) ∧ V.cell? ⟨w.heap.size, 2, none⟩ = some (.string xs) ∧ V.cell? ⟨w.heap.size + 1, 0, none⟩ = some (.int .i64 yk) ∧ V.cell? ⟨w.heap.size + 1, 1, none⟩ = some (.int .i64 yn) ∧ V.cell? ⟨w.heap.size + 1, 2, none⟩ = some (.string ys)) (first | exact ⟨x0, x1, x2, y0, y1, y2⟩) (first | (go_at_call 104; refine (truth_any_3 _ _ _ (by first | exact HX.out | exact HY.out) _).mono ?_; rintro e w1 ⟨rfl, hb1⟩; (try rw [HP.out]); (try rw [HQ.out]); have Z : Hid (Zr w1 (w.heap.size + 1 + 1)) := hide (by first | exact Z.out.below (below_undrew hb1) | exact Z.out.below hb1); have x0 : w1.cell? ⟨w.heap.size, 0, none⟩ = some (.int .i64 xk) := (by first | exact bat (below_undrew hb1) hzx x0 | exact bat hb1 hzx x0); have x1 : w1.cell? ⟨w.heap.size, 1, none⟩ = some (.int .i64 xn) := (by first | exact bat (below_undrew hb1) hzx x1 | exact bat hb1 hzx x1); have x2 : w1.cell? ⟨w.heap.size, 2, none⟩ = some (.string xs) := (by first | exact bat (below_undrew hb1) hzx x2 | exact bat hb1 hzx x2); have y0 : w1.cell? ⟨w.heap.size + 1, 0, none⟩ = some (.int .i64 yk) := (by first | exact bat (below_undrew hb1) hzy y0 | exact bat hb1 hzy y0); have y1 : w1.cell? ⟨w.heap.size + 1, 1, none⟩ = some (.int .i64 yn) := (by first | exact bat (below_undrew hb1) hzy y1 | exact bat hb1 hzy y1); have y2 : w1.cell? ⟨w.heap.size + 1, 2, none⟩ = some (.string ys) := (by first | exact bat (below_undrew hb1) hzy y2 | exact bat hb1 hzy y2); have hb0 : Below w.heap.size w w1 := (by first | exact below_trans hb0 (below_undrew hb1) | exact below_trans hb0 hb1); have hzx : w.heap.size < w1.heap.size := Nat.lt_trans (show w.heap.size < w.heap.size + 1 + 1 by omega) Z.out.lt; have hzy : w.heap.size + 1 < w1.heap.size := Nat.lt_trans (show w.heap.size + 1 < w.heap.size + 1 + 1 by omega) Z.out.lt; clear hb1))
  all_goals
    clear x0 x1 x2 y0 y1 y2
    go_wp2_with (go_at_call 175; refine (boolV_any (s == 0) _).mono ?_; rintro e w3 ⟨rfl, hb3⟩; have Z := hide (Z.out.below hb3); have hb0 := below_trans hb0 hb3; clear hb3; obtain ⟨z0, z1, z2, f0, f1, f2, _⟩ := Z.out; generalize hbv : boolV (s == 0) = bv; obtain ⟨bk, bn, bs⟩ := bv; have HBV := hide hbv; clear hbv; simp only [Val.cells])
    refine bodyPost_ret (v := .agg (Val.cells ⟨bk, bn, bs⟩).toArray) (results_cells (cs := Val.cells ⟨bk, bn, bs⟩) rfl _ _ (w.heap.size + 1 + 1) _ rfl (set_three Z.out.c0 Z.out.c1 Z.out.c2) Tryz.underlying74 rfl (by kernel_rfl)) rfl ⟨by rw [HV.out, HBV.out], below_set3 hb0 (by omega) _ _ _⟩
theorem logic_any (x y : Val) (hx : x.ok) (hy : y.ok) (s : Int) (w : World) :
    Calls Tryz.prog 174 #[.agg x.cells.toArray, .agg y.cells.toArray, .int .i64 s] w fun e w' => e = .returned (.agg (logicV x y s).cells.toArray) ∧ Below w.heap.size w w' := by
  obtain ⟨xk, xn, xs⟩ := x
  obtain ⟨yk, yn, ys⟩ := y
  cases h1 : (truth ⟨xk, xn, xs⟩ == s)
  · cases h2 : (truth ⟨yk, yn, ys⟩ == s)
    · by_cases h3 : truth ⟨xk, xn, xs⟩ < 0
      · exact logic_any_n1 xk xn yk yn s xs ys hx hy h1 h2 h3 w
      · by_cases h4 : truth ⟨yk, yn, ys⟩ < 0
        · exact logic_any_n2 xk xn yk yn s xs ys hx hy h1 h2 (by omega) h4 w
        · exact logic_any_go xk xn yk yn s xs ys hx hy h1 h2 (by omega) (by omega) w
    · exact logic_any_s2 xk xn yk yn s xs ys hx hy h1 h2 w
  · exact logic_any_s1 xk xn yk yn s xs ys hx hy h1 w
end Go.Proofs.YtggejcekmehocaaGreatDoor
