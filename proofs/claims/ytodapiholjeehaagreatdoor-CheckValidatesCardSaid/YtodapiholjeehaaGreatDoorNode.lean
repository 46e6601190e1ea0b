/-
  warehouseref9.node: it returns nodeKd. (Printed by gen_node.py.)
-/
import Derived.Test.YtodapiholjeehaaGreatDoorTypD
import Derived.Test.YtodapiholjeehaaGreatDoorTypG
import Derived.Test.YtodapiholjeehaaGreatDoorGan
namespace Go.Proofs.YtodapiholjeehaaGreatDoor
open Go.RowKit
set_option linter.unusedSimpArgs false
set_option linter.unusedVariables false
theorem unary_ref (op : Int) (hop : op = 2 ∨ op = 3 ∨ op = 16 ∨ op = 19 ∨ op = 20) (xk : Int) (xn : Bool) (w : World) :
    Calls Tryz.prog 181 #[.int .i64 op, .agg #[.int .i64 xk, .bool xn]] w fun e w' => KdRes (unKd op ⟨xk, xn⟩) e ∧ Below w.heap.size w w' := by
  rcases hop with rfl | rfl | rfl | rfl | rfl
  · exact (unary_2 xk xn w).mono fun e w' h => ⟨KdRes.mk h.1 rfl (fun _ => rfl), h.2⟩
  · exact (unary_3 xk xn w).mono fun e w' h => ⟨KdRes.mk h.1 rfl (fun _ => rfl), h.2⟩
  · exact (unary_16 xk xn w).mono fun e w' h => ⟨KdRes.mk h.1 rfl (fun _ => rfl), h.2⟩
  · exact (unary_19 xk xn w).mono fun e w' h => ⟨KdRes.mk h.1 rfl (fun _ => rfl), h.2⟩
  · exact (unary_20 xk xn w).mono fun e w' h => ⟨KdRes.mk h.1 rfl (fun _ => rfl), h.2⟩
structure Zk (w : World) (g : Nat) : Prop where
  c0 : w.cell? ⟨g, 0, none⟩ = some (.int .i64 0)
  c1 : w.cell? ⟨g, 1, none⟩ = some (.bool false)
  f0 : w.frozen? ⟨g, 0, none⟩ = false
  f1 : w.frozen? ⟨g, 1, none⟩ = false
  lt : g < w.heap.size
theorem Zk.below {w w' : World} {g : Nat} (h : Zk w g) (hb : Below w.heap.size w w') : Zk w' g :=
  ⟨bat hb h.lt h.c0, bat hb h.lt h.c1, ((bcell hb).2 _ _ h.lt).trans h.f0, ((bcell hb).2 _ _ h.lt).trans h.f1, by have := hb.size; have := h.lt; omega⟩
theorem Zk.made (w : World) (t : TypeId) : Zk (w.alloc (.cells #[.int .i64 0, .bool false] t)) w.heap.size := by
  constructor <;> simp [go_sem]
theorem Zk.far {w : World} {g g' : Nat} (h : Zk w g) (hne : g ≠ g') (a b : Value) : Zk ((w.setCell ⟨g', 0, none⟩ a).setCell ⟨g', 1, none⟩ b) g :=
  ⟨set_far (set_far h.c0 (.inl hne)) (.inl hne), set_far (set_far h.c1 (.inl hne)) (.inl hne), by have := h.f0; simp [this], by have := h.f1; simp [this], by have := h.lt; simpa using this⟩
theorem set_two {w : World} {g : Nat} {u0 u1 v0 v1 : Value} (h0 : w.cell? ⟨g, 0, none⟩ = some u0) (h1 : w.cell? ⟨g, 1, none⟩ = some u1) :
    ∀ (j : Nat) (v : Value), [v0, v1][j]? = some v → ((w.setCell ⟨g, 0, none⟩ v0).setCell ⟨g, 1, none⟩ v1).cell? ⟨g, j, none⟩ = some v := by
  intro j v hv
  match j, hv with
  | 0, hv => simp at hv; subst hv; exact set_far (set_same h0) (.inr (by omega))
  | 1, hv => simp at hv; subst hv; exact set_same (set_far h1 (.inr (by omega)))
theorem below_set2' {B g : Nat} {w w' : World} (h : Below B w w') (hg : B ≤ g) (u v : Value) : Below B w ((w'.setCell ⟨g, 0, none⟩ u).setCell ⟨g, 1, none⟩ v) := (h.setCell hg _).setCell hg _
theorem Zk.drew {w : World} {g : Nat} (h : Zk w g) : Zk w.drew g := ⟨h.c0, h.c1, h.f0, h.f1, h.lt⟩
set_option maxHeartbeats 4000000 in
set_option maxRecDepth 100000 in
theorem binary_5 (xk yk : Int) (xn yn : Bool) (w : World) :
    Calls Tryz.prog 182 #[.int .i64 5, .agg #[.int .i64 xk, .bool xn], .agg #[.int .i64 yk, .bool yn]] w fun e w' => KdRes (binKd 5 ⟨xk, xn⟩ ⟨yk, yn⟩) e ∧ Below w.heap.size w w' := by
  cases xn
  · cases yn
    · have hx2 := Below.refl (((w.alloc (.cells #[.int .i64 xk, .bool false] 167)).alloc (.cells #[.int .i64 yk, .bool false] 167)).alloc (.cells #[.int .i64 0, .bool false] 167)).heap.size (((w.alloc (.cells #[.int .i64 xk, .bool false] 167)).alloc (.cells #[.int .i64 yk, .bool false] 167)).alloc (.cells #[.int .i64 0, .bool false] 167))
      go_enter Tryz.func182, Tryz.ntmps182
      go_wp2_with (go_at_call 224; refine (difference_ref _ _ _ _ _).mono ?_; rintro e w1 ⟨⟨⟨kk, kn⟩, rfl, hk⟩, hb1⟩; have HK := hide hk; have hx2 := below_trans hx2 hb1; have d0 := (bcell hx2).1 (w.heap.size + 1 + 1) 0 (by simp <;> omega); have d1 := (bcell hx2).1 (w.heap.size + 1 + 1) 1 (by simp <;> omega); have F0 := (bcell hx2).2 (w.heap.size + 1 + 1) 0 (by simp <;> omega); have F1 := (bcell hx2).2 (w.heap.size + 1 + 1) 1 (by simp <;> omega); simp [go_sem] at d0 d1 F0 F1; simp only [Kd.cells]; have HB : Hid (Below w.heap.size w w1) := hide (below_trans (below_trans below_alloc2 below_alloc) hx2); have HS := hide (made_pair d0 d1); clear hb1 hk hx2)
      refine bodyPost_ret (v := .tuple #[.agg (Kd.cells ⟨kk, kn⟩).toArray, .bool (binKd 5 ⟨xk, false⟩ ⟨yk, false⟩).2]) ?_ rfl ?_
      · obtain ⟨S0, S1⟩ := HS.out
        simp [results, Tryz.results182, go_sem, S0, S1, Kd.cells]
      · exact ⟨⟨_, rfl, HK.out⟩, (HB.out.setCell (by simp <;> omega) _).setCell (by simp <;> omega) _⟩
    · have hx2 := Below.refl (((w.alloc (.cells #[.int .i64 xk, .bool false] 167)).alloc (.cells #[.int .i64 yk, .bool true] 167)).alloc (.cells #[.int .i64 0, .bool false] 167)).heap.size (((w.alloc (.cells #[.int .i64 xk, .bool false] 167)).alloc (.cells #[.int .i64 yk, .bool true] 167)).alloc (.cells #[.int .i64 0, .bool false] 167))
      go_enter Tryz.func182, Tryz.ntmps182
      go_wp2_with (go_at_call 224; refine (difference_ref _ _ _ _ _).mono ?_; rintro e w1 ⟨⟨⟨kk, kn⟩, rfl, hk⟩, hb1⟩; have HK := hide hk; have hx2 := below_trans hx2 hb1; have d0 := (bcell hx2).1 (w.heap.size + 1 + 1) 0 (by simp <;> omega); have d1 := (bcell hx2).1 (w.heap.size + 1 + 1) 1 (by simp <;> omega); have F0 := (bcell hx2).2 (w.heap.size + 1 + 1) 0 (by simp <;> omega); have F1 := (bcell hx2).2 (w.heap.size + 1 + 1) 1 (by simp <;> omega); simp [go_sem] at d0 d1 F0 F1; simp only [Kd.cells]; have HB : Hid (Below w.heap.size w w1) := hide (below_trans (below_trans below_alloc2 below_alloc) hx2); have HS := hide (made_pair d0 d1); clear hb1 hk hx2)
      refine bodyPost_ret (v := .tuple #[.agg (Kd.cells ⟨kk, kn⟩).toArray, .bool (binKd 5 ⟨xk, false⟩ ⟨yk, true⟩).2]) ?_ rfl ?_
      · obtain ⟨S0, S1⟩ := HS.out
        simp [results, Tryz.results182, go_sem, S0, S1, Kd.cells]
      · exact ⟨⟨_, rfl, HK.out⟩, (HB.out.setCell (by simp <;> omega) _).setCell (by simp <;> omega) _⟩
  · cases yn
    · have hx2 := Below.refl (((w.alloc (.cells #[.int .i64 xk, .bool true] 167)).alloc (.cells #[.int .i64 yk, .bool false] 167)).alloc (.cells #[.int .i64 0, .bool false] 167)).heap.size (((w.alloc (.cells #[.int .i64 xk, .bool true] 167)).alloc (.cells #[.int .i64 yk, .bool false] 167)).alloc (.cells #[.int .i64 0, .bool false] 167))
      go_enter Tryz.func182, Tryz.ntmps182
      go_wp2_with (go_at_call 224; refine (difference_ref _ _ _ _ _).mono ?_; rintro e w1 ⟨⟨⟨kk, kn⟩, rfl, hk⟩, hb1⟩; have HK := hide hk; have hx2 := below_trans hx2 hb1; have d0 := (bcell hx2).1 (w.heap.size + 1 + 1) 0 (by simp <;> omega); have d1 := (bcell hx2).1 (w.heap.size + 1 + 1) 1 (by simp <;> omega); have F0 := (bcell hx2).2 (w.heap.size + 1 + 1) 0 (by simp <;> omega); have F1 := (bcell hx2).2 (w.heap.size + 1 + 1) 1 (by simp <;> omega); simp [go_sem] at d0 d1 F0 F1; simp only [Kd.cells]; have HB : Hid (Below w.heap.size w w1) := hide (below_trans (below_trans below_alloc2 below_alloc) hx2); have HS := hide (made_pair d0 d1); clear hb1 hk hx2)
      refine bodyPost_ret (v := .tuple #[.agg (Kd.cells ⟨kk, kn⟩).toArray, .bool (binKd 5 ⟨xk, true⟩ ⟨yk, false⟩).2]) ?_ rfl ?_
      · obtain ⟨S0, S1⟩ := HS.out
        simp [results, Tryz.results182, go_sem, S0, S1, Kd.cells]
      · exact ⟨⟨_, rfl, HK.out⟩, (HB.out.setCell (by simp <;> omega) _).setCell (by simp <;> omega) _⟩
    · have hx2 := Below.refl (((w.alloc (.cells #[.int .i64 xk, .bool true] 167)).alloc (.cells #[.int .i64 yk, .bool true] 167)).alloc (.cells #[.int .i64 0, .bool false] 167)).heap.size (((w.alloc (.cells #[.int .i64 xk, .bool true] 167)).alloc (.cells #[.int .i64 yk, .bool true] 167)).alloc (.cells #[.int .i64 0, .bool false] 167))
      go_enter Tryz.func182, Tryz.ntmps182
      go_wp2_with (go_at_call 224; refine (difference_ref _ _ _ _ _).mono ?_; rintro e w1 ⟨⟨⟨kk, kn⟩, rfl, hk⟩, hb1⟩; have HK := hide hk; have hx2 := below_trans hx2 hb1; have d0 := (bcell hx2).1 (w.heap.size + 1 + 1) 0 (by simp <;> omega); have d1 := (bcell hx2).1 (w.heap.size + 1 + 1) 1 (by simp <;> omega); have F0 := (bcell hx2).2 (w.heap.size + 1 + 1) 0 (by simp <;> omega); have F1 := (bcell hx2).2 (w.heap.size + 1 + 1) 1 (by simp <;> omega); simp [go_sem] at d0 d1 F0 F1; simp only [Kd.cells]; have HB : Hid (Below w.heap.size w w1) := hide (below_trans (below_trans below_alloc2 below_alloc) hx2); have HS := hide (made_pair d0 d1); clear hb1 hk hx2)
      refine bodyPost_ret (v := .tuple #[.agg (Kd.cells ⟨kk, kn⟩).toArray, .bool (binKd 5 ⟨xk, true⟩ ⟨yk, true⟩).2]) ?_ rfl ?_
      · obtain ⟨S0, S1⟩ := HS.out
        simp [results, Tryz.results182, go_sem, S0, S1, Kd.cells]
      · exact ⟨⟨_, rfl, HK.out⟩, (HB.out.setCell (by simp <;> omega) _).setCell (by simp <;> omega) _⟩
theorem binary_ref (op : Int) (hop : (4 ≤ op ∧ op ≤ 15) ∨ op = 18) (xk yk : Int) (xn yn : Bool) (w : World) :
    Calls Tryz.prog 182 #[.int .i64 op, .agg #[.int .i64 xk, .bool xn], .agg #[.int .i64 yk, .bool yn]] w fun e w' => KdRes (binKd op ⟨xk, xn⟩ ⟨yk, yn⟩) e ∧ Below w.heap.size w w' := by
  obtain rfl | rfl | rfl | rfl | rfl | rfl | rfl | rfl | rfl | rfl | rfl | rfl | rfl : op = 4 ∨ op = 5 ∨ op = 6 ∨ op = 7 ∨ op = 8 ∨ op = 9 ∨ op = 10 ∨ op = 11 ∨ op = 12 ∨ op = 13 ∨ op = 14 ∨ op = 15 ∨ op = 18 := by omega
  · by_cases h : xk = 4
    · subst h
      exact (binary_4t yk xn yn w).mono fun e w' h => ⟨KdRes.mk h.1 rfl (fun _ => rfl), h.2⟩
    · exact (binary_4n xk yk xn yn w (by simpa using h) h).mono fun e w' h => ⟨KdRes.mk h.1 rfl (fun _ => rfl), h.2⟩
  · exact binary_5 xk yk xn yn w
  · exact (binary_6 xk yk xn yn w).mono fun e w' h => ⟨KdRes.mk h.1 rfl (fun _ => rfl), h.2⟩
  · exact (binary_7 xk yk xn yn w).mono fun e w' h => ⟨KdRes.mk h.1 rfl (fun _ => rfl), h.2⟩
  · exact (binary_8 xk yk xn yn w).mono fun e w' h => ⟨KdRes.mk h.1 rfl (fun _ => rfl), h.2⟩
  · exact (binary_9 xk yk xn yn w).mono fun e w' h => ⟨KdRes.mk h.1 rfl (fun _ => rfl), h.2⟩
  · exact (binary_10 xk yk xn yn w).mono fun e w' h => ⟨KdRes.mk h.1 rfl (fun _ => rfl), h.2⟩
  · exact (binary_11 xk yk xn yn w).mono fun e w' h => ⟨KdRes.mk h.1 rfl (fun _ => rfl), h.2⟩
  · exact (binary_12 xk yk xn yn w).mono fun e w' h => ⟨KdRes.mk h.1 rfl (fun _ => rfl), h.2⟩
  · exact (binary_13 xk yk xn yn w).mono fun e w' h => ⟨KdRes.mk h.1 rfl (fun _ => rfl), h.2⟩
  · exact (binary_14 xk yk xn yn w).mono fun e w' h => ⟨KdRes.mk h.1 rfl (fun _ => rfl), h.2⟩
  · exact (binary_15 xk yk xn yn w).mono fun e w' h => ⟨KdRes.mk h.1 rfl (fun _ => rfl), h.2⟩
  · exact (binary_18 xk yk xn yn w).mono fun e w' h => ⟨KdRes.mk h.1 rfl (fun _ => rfl), h.2⟩
set_option maxHeartbeats 4000000 in
set_option maxRecDepth 100000 in
theorem node_0 (kd nu ar : Int) (st nm : ByteArray) (w : World) (A1 : Option Addr) (n1 c1 : Nat) (cols : List Col) (hc : In w A1 n1 c1 cols) (A2 : Option Addr) (n2 c2 : Nat) (zs : List Zone) (hz : In w A2 n2 c2 zs) (A : Option Addr) (m c : Nat) :
    Calls Tryz.prog 121 #[.agg #[.int .i64 0, .int .i64 kd, .int .i64 nu, .string st, .string nm, .int .i64 ar], .slice A m c, .slice A1 n1 c1, .slice A2 n2 c2] w fun e w' => e = .returned (.tuple #[.agg (nodeKd cols zs ⟨0, ⟨kd, nu, st⟩, nm, ar⟩ []).2.cells.toArray, .int .i64 (nodeKd cols zs ⟨0, ⟨kd, nu, st⟩, nm, ar⟩ []).1]) ∧ Below w.heap.size w w' := by
  have HN : Hid (nodeKd cols zs ⟨0, ⟨kd, nu, st⟩, nm, ar⟩ [] = (0, ⟨kd, kd == 0⟩)) := hide (by simp [nodeKd, opKd])
  cases hkd : (kd == 0)
  all_goals
    rw [hkd] at HN
    go_enter Tryz.func121, Tryz.ntmps121
    go_wp2
    refine bodyPost_ret (v := .tuple #[.agg (Kd.cells ⟨kd, _⟩).toArray, .int .i64 0]) ?_ rfl ⟨by rw [HN.out], by first | exact (below_trans below_alloc2 below_alloc) | exact ((below_trans below_alloc2 below_alloc).setCell (by simp <;> omega) _).setCell (by simp <;> omega) _⟩
    simp [results, Tryz.results121, go_sem, Kd.cells]
set_option maxHeartbeats 4000000 in
set_option maxRecDepth 100000 in
theorem node_21 (kd nu ar : Int) (st nm : ByteArray) (w : World) (A1 : Option Addr) (n1 c1 : Nat) (cols : List Col) (hc : In w A1 n1 c1 cols) (A2 : Option Addr) (n2 c2 : Nat) (zs : List Zone) (hz : In w A2 n2 c2 zs) (A : Option Addr) (m c : Nat) (xs : List Kd) :
    Calls Tryz.prog 121 #[.agg #[.int .i64 21, .int .i64 kd, .int .i64 nu, .string st, .string nm, .int .i64 ar], .slice A m c, .slice A1 n1 c1, .slice A2 n2 c2] w fun e w' => e = .returned (.tuple #[.agg (nodeKd cols zs ⟨21, ⟨kd, nu, st⟩, nm, ar⟩ xs).2.cells.toArray, .int .i64 (nodeKd cols zs ⟨21, ⟨kd, nu, st⟩, nm, ar⟩ xs).1]) ∧ Below w.heap.size w w' := by
  have HN : Hid (nodeKd cols zs ⟨21, ⟨kd, nu, st⟩, nm, ar⟩ xs = (5, default)) := hide (by simp [nodeKd])
  go_enter Tryz.func121, Tryz.ntmps121
  go_wp2
  refine bodyPost_ret (v := .tuple #[.agg (Kd.cells ⟨0, false⟩).toArray, .int .i64 5]) ?_ rfl ⟨by rw [HN.out]; rfl, by first | exact (below_trans below_alloc2 below_alloc) | exact ((below_trans below_alloc2 below_alloc).setCell (by simp <;> omega) _).setCell (by simp <;> omega) _⟩
  simp [results, Tryz.results121, go_sem, Kd.cells]
set_option maxHeartbeats 4000000 in
set_option maxRecDepth 100000 in
theorem node_un_t (op kd nu ar : Int) (st nm : ByteArray) (w : World) (A1 : Option Addr) (n1 c1 : Nat) (cols : List Col) (hc : In w A1 n1 c1 cols) (A2 : Option Addr) (n2 c2 : Nat) (zs : List Zone) (hz : In w A2 n2 c2 zs) (b off c : Nat) (xk : Int) (xn : Bool) (hx : In w (some ⟨b, off, none⟩) 1 c ([⟨xk, xn⟩] : List Kd)) (hop : op = 2 ∨ op = 3 ∨ op = 16 ∨ op = 19) (hok : (unKd op ⟨xk, xn⟩).2 = true) :
    Calls Tryz.prog 121 #[.agg #[.int .i64 op, .int .i64 kd, .int .i64 nu, .string st, .string nm, .int .i64 ar], .slice (some ⟨b, off, none⟩) 1 c, .slice A1 n1 c1, .slice A2 n2 c2] w fun e w' => e = .returned (.tuple #[.agg (nodeKd cols zs ⟨op, ⟨kd, nu, st⟩, nm, ar⟩ ([⟨xk, xn⟩] : List Kd)).2.cells.toArray, .int .i64 (nodeKd cols zs ⟨op, ⟨kd, nu, st⟩, nm, ar⟩ ([⟨xk, xn⟩] : List Kd)).1]) ∧ Below w.heap.size w w' := by
  obtain ⟨hB, x0, x1⟩ := kd_cells hx (show 0 < 1 by omega) (x := ⟨xk, xn⟩) rfl
  simp only [Nat.zero_mul, Nat.one_mul, Nat.add_zero, Nat.reduceMul] at x0 x1
  have HN : Hid (nodeKd cols zs ⟨op, ⟨kd, nu, st⟩, nm, ar⟩ ([⟨xk, xn⟩] : List Kd) = (0, (unKd op ⟨xk, xn⟩).1)) := hide (by rw [nodeKd, if_neg (by simp only; omega), if_neg (by simp only; omega), if_neg (fun h => absurd h.1 (by simp only; omega))]; rw [if_neg (show ¬ (opKd (⟨op, ⟨kd, nu, st⟩, nm, ar⟩ : Node) ([⟨xk, xn⟩] : List Kd)).2 = false from fun h => by have h2 : (opKd (⟨op, ⟨kd, nu, st⟩, nm, ar⟩ : Node) ([⟨xk, xn⟩] : List Kd)).2 = true := hok; rw [h2] at h; cases h)]; rfl)
  have e0 : (op == 0) = false := by simp; omega
  have e1 : (op == 1) = false := by simp; omega
  have e17 : (op == 17) = false := by simp; omega
  have e20 : (op == 20) = false := by simp; omega
  have e21 : (op == 21) = false := by simp; omega
  have HOP := hide hop
  clear hop
  go_enter Tryz.func121, Tryz.ntmps121
  go_upto_region 4 with (fail)
  have R : Hid (Zk (((w.alloc (.cells #[.int .i64 op, .int .i64 kd, .int .i64 nu, .string st, .string nm, .int .i64 ar] 88)).alloc (.cells #[.int .i64 0, .bool false] 167)).alloc (.cells #[.int .i64 0, .bool false] 167)) (w.heap.size + 1)) := hide (by have := (Zk.made (w.alloc (.cells #[.int .i64 op, .int .i64 kd, .int .i64 nu, .string st, .string nm, .int .i64 ar] 88)) 167).below (w' := (((w.alloc (.cells #[.int .i64 op, .int .i64 kd, .int .i64 nu, .string st, .string nm, .int .i64 ar] 88)).alloc (.cells #[.int .i64 0, .bool false] 167)).alloc (.cells #[.int .i64 0, .bool false] 167))) below_alloc; simpa using this)
  have Q : Hid (Zk (((w.alloc (.cells #[.int .i64 op, .int .i64 kd, .int .i64 nu, .string st, .string nm, .int .i64 ar] 88)).alloc (.cells #[.int .i64 0, .bool false] 167)).alloc (.cells #[.int .i64 0, .bool false] 167)) (w.heap.size + 1 + 1)) := hide (by have := Zk.made ((w.alloc (.cells #[.int .i64 op, .int .i64 kd, .int .i64 nu, .string st, .string nm, .int .i64 ar] 88)).alloc (.cells #[.int .i64 0, .bool false] 167)) 167; simpa using this)
  have N0 : (((w.alloc (.cells #[.int .i64 op, .int .i64 kd, .int .i64 nu, .string st, .string nm, .int .i64 ar] 88)).alloc (.cells #[.int .i64 0, .bool false] 167)).alloc (.cells #[.int .i64 0, .bool false] 167)).cell? ⟨w.heap.size, 0, none⟩ = some (.int .i64 op) := by simp [go_sem]
  have N1 : (((w.alloc (.cells #[.int .i64 op, .int .i64 kd, .int .i64 nu, .string st, .string nm, .int .i64 ar] 88)).alloc (.cells #[.int .i64 0, .bool false] 167)).alloc (.cells #[.int .i64 0, .bool false] 167)).cell? ⟨w.heap.size, 1, none⟩ = some (.int .i64 kd) := by simp [go_sem]
  have N4 : (((w.alloc (.cells #[.int .i64 op, .int .i64 kd, .int .i64 nu, .string st, .string nm, .int .i64 ar] 88)).alloc (.cells #[.int .i64 0, .bool false] 167)).alloc (.cells #[.int .i64 0, .bool false] 167)).cell? ⟨w.heap.size, 4, none⟩ = some (.string nm) := by simp [go_sem]
  have hb0 : Below w.heap.size w (((w.alloc (.cells #[.int .i64 op, .int .i64 kd, .int .i64 nu, .string st, .string nm, .int .i64 ar] 88)).alloc (.cells #[.int .i64 0, .bool false] 167)).alloc (.cells #[.int .i64 0, .bool false] 167)) := below_alloc3
  obtain ⟨w0, hw0⟩ : ∃ w0, w0 = (((w.alloc (.cells #[.int .i64 op, .int .i64 kd, .int .i64 nu, .string st, .string nm, .int .i64 ar] 88)).alloc (.cells #[.int .i64 0, .bool false] 167)).alloc (.cells #[.int .i64 0, .bool false] 167)) := ⟨_, rfl⟩
  rw [← hw0] at R Q N0 N1 N4 hb0
  rw [← hw0]
  clear hw0
  have hn0 : w.heap.size < w0.heap.size := Nat.lt_trans (show w.heap.size < w.heap.size + 1 by omega) R.out.lt
  have hnq : ¬ w.heap.size = w.heap.size + 1 + 1 := by omega
  have hrq : w.heap.size + 1 ≠ w.heap.size + 1 + 1 := by omega
  have hB0 : b < w0.heap.size := by have := hb0.size; omega
  have hne : ¬ b = w.heap.size + 1 + 1 := by omega
  have x0 := bat hb0 hB x0
  have x1 := bat hb0 hB x1
  go_region_held3 (fun V => V.cell? ⟨w.heap.size, 0, none⟩ = some (.int .i64 op) ∧ V.cell? ⟨b, off, none⟩ = some (.int .i64 xk) ∧ V.cell? ⟨b, off + 1, none⟩ = some (.bool xn)) (first | exact ⟨N0, x0, x1⟩ | exact ⟨N0', x0', x1'⟩ | exact ⟨set_far (set_far N0' (.inl hnq)) (.inl hnq), set_far (set_far x0' (.inl hne)) (.inl hne), set_far (set_far x1' (.inl hne)) (.inl hne)⟩ | exact ⟨set_far (set_far N0 (.inl hnq)) (.inl hnq), set_far (set_far x0 (.inl hne)) (.inl hne), set_far (set_far x1 (.inl hne)) (.inl hne)⟩) (first | (go_at_call 181; refine (unary_ref op (by have := HOP.out; omega) xk xn _).mono ?_; rintro e w1 ⟨⟨⟨kk, kn⟩, rfl, hk⟩, hb1⟩; have HK := hide hk; clear hk; rw [hok]; simp only [Kd.cells]; have hq := below_undrew hb1; have N0' := bat hq hn0 N0; have x0' := bat hq hB0 x0; have x1' := bat hq hB0 x1; have R := hide (R.out.below hq); have Q := hide (Q.out.below hq); have hb0 := below_trans hb0 hq; clear hb1; obtain ⟨q0, q1, p0, p1, _⟩ := Q.out; obtain ⟨r0, r1, s0, s1, _⟩ := R.out))
  obtain ⟨w4, hw4⟩ : ∃ w4, w4 = (w1.setCell ⟨w.heap.size + 1 + 1, 0, none⟩ (.int .i64 kk)).setCell ⟨w.heap.size + 1 + 1, 1, none⟩ (.bool kn) := ⟨_, rfl⟩
  have R : Hid (Zk w4 (w.heap.size + 1)) := hide (by rw [hw4]; exact R.out.far hrq _ _)
  have u0 : w4.cell? ⟨w.heap.size + 1 + 1, 0, none⟩ = some (.int .i64 kk) := by rw [hw4]; exact set_two Q.out.c0 Q.out.c1 0 _ rfl
  have u1 : w4.cell? ⟨w.heap.size + 1 + 1, 1, none⟩ = some (.bool kn) := by rw [hw4]; exact set_two Q.out.c0 Q.out.c1 1 _ rfl
  have hb0 : Below w.heap.size w w4 := by rw [hw4]; exact below_set2' hb0 (by omega) _ _
  rw [← hw4]
  clear hw4 Q
  obtain ⟨r0, r1, s0, s1, _⟩ := R.out
  go_wp2
  refine bodyPost_ret (v := .tuple #[.agg (Kd.cells ⟨kk, kn⟩).toArray, .int .i64 0]) (results_cells2 (cs := Kd.cells ⟨kk, kn⟩) rfl _ _ (w.heap.size + 1) _ _ rfl rfl (set_two R.out.c0 R.out.c1) Tryz.underlying167 rfl (by kernel_rfl)) rfl ⟨by rw [HN.out, ← HK.out hok], below_set2' hb0 (by omega) _ _⟩
set_option maxHeartbeats 4000000 in
set_option maxRecDepth 100000 in
theorem node_un_f (op kd nu ar : Int) (st nm : ByteArray) (w : World) (A1 : Option Addr) (n1 c1 : Nat) (cols : List Col) (hc : In w A1 n1 c1 cols) (A2 : Option Addr) (n2 c2 : Nat) (zs : List Zone) (hz : In w A2 n2 c2 zs) (b off c : Nat) (xk : Int) (xn : Bool) (hx : In w (some ⟨b, off, none⟩) 1 c ([⟨xk, xn⟩] : List Kd)) (hop : op = 2 ∨ op = 3 ∨ op = 16 ∨ op = 19) (hok : (unKd op ⟨xk, xn⟩).2 = false) :
    Calls Tryz.prog 121 #[.agg #[.int .i64 op, .int .i64 kd, .int .i64 nu, .string st, .string nm, .int .i64 ar], .slice (some ⟨b, off, none⟩) 1 c, .slice A1 n1 c1, .slice A2 n2 c2] w fun e w' => e = .returned (.tuple #[.agg (nodeKd cols zs ⟨op, ⟨kd, nu, st⟩, nm, ar⟩ ([⟨xk, xn⟩] : List Kd)).2.cells.toArray, .int .i64 (nodeKd cols zs ⟨op, ⟨kd, nu, st⟩, nm, ar⟩ ([⟨xk, xn⟩] : List Kd)).1]) ∧ Below w.heap.size w w' := by
  obtain ⟨hB, x0, x1⟩ := kd_cells hx (show 0 < 1 by omega) (x := ⟨xk, xn⟩) rfl
  simp only [Nat.zero_mul, Nat.one_mul, Nat.add_zero, Nat.reduceMul] at x0 x1
  have HN : Hid (nodeKd cols zs ⟨op, ⟨kd, nu, st⟩, nm, ar⟩ ([⟨xk, xn⟩] : List Kd) = (7, default)) := hide (by rw [nodeKd, if_neg (by simp only; omega), if_neg (by simp only; omega), if_neg (fun h => absurd h.1 (by simp only; omega))]; rw [if_pos (show (opKd (⟨op, ⟨kd, nu, st⟩, nm, ar⟩ : Node) ([⟨xk, xn⟩] : List Kd)).2 = false from hok)])
  have e0 : (op == 0) = false := by simp; omega
  have e1 : (op == 1) = false := by simp; omega
  have e17 : (op == 17) = false := by simp; omega
  have e20 : (op == 20) = false := by simp; omega
  have e21 : (op == 21) = false := by simp; omega
  have HOP := hide hop
  clear hop
  go_enter Tryz.func121, Tryz.ntmps121
  go_upto_region 4 with (fail)
  have R : Hid (Zk (((w.alloc (.cells #[.int .i64 op, .int .i64 kd, .int .i64 nu, .string st, .string nm, .int .i64 ar] 88)).alloc (.cells #[.int .i64 0, .bool false] 167)).alloc (.cells #[.int .i64 0, .bool false] 167)) (w.heap.size + 1)) := hide (by have := (Zk.made (w.alloc (.cells #[.int .i64 op, .int .i64 kd, .int .i64 nu, .string st, .string nm, .int .i64 ar] 88)) 167).below (w' := (((w.alloc (.cells #[.int .i64 op, .int .i64 kd, .int .i64 nu, .string st, .string nm, .int .i64 ar] 88)).alloc (.cells #[.int .i64 0, .bool false] 167)).alloc (.cells #[.int .i64 0, .bool false] 167))) below_alloc; simpa using this)
  have Q : Hid (Zk (((w.alloc (.cells #[.int .i64 op, .int .i64 kd, .int .i64 nu, .string st, .string nm, .int .i64 ar] 88)).alloc (.cells #[.int .i64 0, .bool false] 167)).alloc (.cells #[.int .i64 0, .bool false] 167)) (w.heap.size + 1 + 1)) := hide (by have := Zk.made ((w.alloc (.cells #[.int .i64 op, .int .i64 kd, .int .i64 nu, .string st, .string nm, .int .i64 ar] 88)).alloc (.cells #[.int .i64 0, .bool false] 167)) 167; simpa using this)
  have N0 : (((w.alloc (.cells #[.int .i64 op, .int .i64 kd, .int .i64 nu, .string st, .string nm, .int .i64 ar] 88)).alloc (.cells #[.int .i64 0, .bool false] 167)).alloc (.cells #[.int .i64 0, .bool false] 167)).cell? ⟨w.heap.size, 0, none⟩ = some (.int .i64 op) := by simp [go_sem]
  have N1 : (((w.alloc (.cells #[.int .i64 op, .int .i64 kd, .int .i64 nu, .string st, .string nm, .int .i64 ar] 88)).alloc (.cells #[.int .i64 0, .bool false] 167)).alloc (.cells #[.int .i64 0, .bool false] 167)).cell? ⟨w.heap.size, 1, none⟩ = some (.int .i64 kd) := by simp [go_sem]
  have N4 : (((w.alloc (.cells #[.int .i64 op, .int .i64 kd, .int .i64 nu, .string st, .string nm, .int .i64 ar] 88)).alloc (.cells #[.int .i64 0, .bool false] 167)).alloc (.cells #[.int .i64 0, .bool false] 167)).cell? ⟨w.heap.size, 4, none⟩ = some (.string nm) := by simp [go_sem]
  have hb0 : Below w.heap.size w (((w.alloc (.cells #[.int .i64 op, .int .i64 kd, .int .i64 nu, .string st, .string nm, .int .i64 ar] 88)).alloc (.cells #[.int .i64 0, .bool false] 167)).alloc (.cells #[.int .i64 0, .bool false] 167)) := below_alloc3
  obtain ⟨w0, hw0⟩ : ∃ w0, w0 = (((w.alloc (.cells #[.int .i64 op, .int .i64 kd, .int .i64 nu, .string st, .string nm, .int .i64 ar] 88)).alloc (.cells #[.int .i64 0, .bool false] 167)).alloc (.cells #[.int .i64 0, .bool false] 167)) := ⟨_, rfl⟩
  rw [← hw0] at R Q N0 N1 N4 hb0
  rw [← hw0]
  clear hw0
  have hn0 : w.heap.size < w0.heap.size := Nat.lt_trans (show w.heap.size < w.heap.size + 1 by omega) R.out.lt
  have hnq : ¬ w.heap.size = w.heap.size + 1 + 1 := by omega
  have hrq : w.heap.size + 1 ≠ w.heap.size + 1 + 1 := by omega
  have hB0 : b < w0.heap.size := by have := hb0.size; omega
  have hne : ¬ b = w.heap.size + 1 + 1 := by omega
  have x0 := bat hb0 hB x0
  have x1 := bat hb0 hB x1
  go_region_held3 (fun V => V.cell? ⟨w.heap.size, 0, none⟩ = some (.int .i64 op) ∧ V.cell? ⟨b, off, none⟩ = some (.int .i64 xk) ∧ V.cell? ⟨b, off + 1, none⟩ = some (.bool xn)) (first | exact ⟨N0, x0, x1⟩ | exact ⟨N0', x0', x1'⟩ | exact ⟨set_far (set_far N0' (.inl hnq)) (.inl hnq), set_far (set_far x0' (.inl hne)) (.inl hne), set_far (set_far x1' (.inl hne)) (.inl hne)⟩ | exact ⟨set_far (set_far N0 (.inl hnq)) (.inl hnq), set_far (set_far x0 (.inl hne)) (.inl hne), set_far (set_far x1 (.inl hne)) (.inl hne)⟩) (first | (go_at_call 181; refine (unary_ref op (by have := HOP.out; omega) xk xn _).mono ?_; rintro e w1 ⟨⟨⟨kk, kn⟩, rfl, hk⟩, hb1⟩; have HK := hide hk; clear hk; rw [hok]; simp only [Kd.cells]; have hq := below_undrew hb1; have N0' := bat hq hn0 N0; have x0' := bat hq hB0 x0; have x1' := bat hq hB0 x1; have R := hide (R.out.below hq); have Q := hide (Q.out.below hq); have hb0 := below_trans hb0 hq; clear hb1; obtain ⟨q0, q1, p0, p1, _⟩ := Q.out; obtain ⟨r0, r1, s0, s1, _⟩ := R.out))
  obtain ⟨w4, hw4⟩ : ∃ w4, w4 = (w1.setCell ⟨w.heap.size + 1 + 1, 0, none⟩ (.int .i64 kk)).setCell ⟨w.heap.size + 1 + 1, 1, none⟩ (.bool kn) := ⟨_, rfl⟩
  have R : Hid (Zk w4 (w.heap.size + 1)) := hide (by rw [hw4]; exact R.out.far hrq _ _)
  have u0 : w4.cell? ⟨w.heap.size + 1 + 1, 0, none⟩ = some (.int .i64 kk) := by rw [hw4]; exact set_two Q.out.c0 Q.out.c1 0 _ rfl
  have u1 : w4.cell? ⟨w.heap.size + 1 + 1, 1, none⟩ = some (.bool kn) := by rw [hw4]; exact set_two Q.out.c0 Q.out.c1 1 _ rfl
  have hb0 : Below w.heap.size w w4 := by rw [hw4]; exact below_set2' hb0 (by omega) _ _
  rw [← hw4]
  clear hw4 Q
  obtain ⟨r0, r1, s0, s1, _⟩ := R.out
  go_wp2
  refine bodyPost_ret (v := .tuple #[.agg (Kd.cells ⟨0, false⟩).toArray, .int .i64 7]) (results_cells2 (cs := Kd.cells ⟨0, false⟩) rfl _ _ (w.heap.size + 1) _ _ rfl rfl (set_two R.out.c0 R.out.c1) Tryz.underlying167 rfl (by kernel_rfl)) rfl ⟨by rw [HN.out]; rfl, below_set2' hb0 (by omega) _ _⟩
set_option maxHeartbeats 4000000 in
set_option maxRecDepth 100000 in
theorem node_bin_t (op kd nu ar : Int) (st nm : ByteArray) (w : World) (A1 : Option Addr) (n1 c1 : Nat) (cols : List Col) (hc : In w A1 n1 c1 cols) (A2 : Option Addr) (n2 c2 : Nat) (zs : List Zone) (hz : In w A2 n2 c2 zs) (b off c : Nat) (xk : Int) (xn : Bool) (yk : Int) (yn : Bool) (hx : In w (some ⟨b, off, none⟩) 2 c ([⟨xk, xn⟩, ⟨yk, yn⟩] : List Kd)) (hop : (4 ≤ op ∧ op ≤ 15) ∨ op = 18) (hok : (binKd op ⟨xk, xn⟩ ⟨yk, yn⟩).2 = true) :
    Calls Tryz.prog 121 #[.agg #[.int .i64 op, .int .i64 kd, .int .i64 nu, .string st, .string nm, .int .i64 ar], .slice (some ⟨b, off, none⟩) 2 c, .slice A1 n1 c1, .slice A2 n2 c2] w fun e w' => e = .returned (.tuple #[.agg (nodeKd cols zs ⟨op, ⟨kd, nu, st⟩, nm, ar⟩ ([⟨xk, xn⟩, ⟨yk, yn⟩] : List Kd)).2.cells.toArray, .int .i64 (nodeKd cols zs ⟨op, ⟨kd, nu, st⟩, nm, ar⟩ ([⟨xk, xn⟩, ⟨yk, yn⟩] : List Kd)).1]) ∧ Below w.heap.size w w' := by
  obtain ⟨hB, x0, x1⟩ := kd_cells hx (show 0 < 2 by omega) (x := ⟨xk, xn⟩) rfl
  obtain ⟨hB, y0, y1⟩ := kd_cells hx (show 1 < 2 by omega) (x := ⟨yk, yn⟩) rfl
  simp only [Nat.zero_mul, Nat.one_mul, Nat.add_zero, Nat.reduceMul] at x0 x1 y0 y1
  have HN : Hid (nodeKd cols zs ⟨op, ⟨kd, nu, st⟩, nm, ar⟩ ([⟨xk, xn⟩, ⟨yk, yn⟩] : List Kd) = (0, (binKd op ⟨xk, xn⟩ ⟨yk, yn⟩).1)) := hide (by rw [nodeKd, if_neg (by simp only; omega), if_neg (by simp only; omega), if_neg (fun h => absurd h.1 (by simp only; omega))]; rw [if_neg (show ¬ (opKd (⟨op, ⟨kd, nu, st⟩, nm, ar⟩ : Node) ([⟨xk, xn⟩, ⟨yk, yn⟩] : List Kd)).2 = false from fun h => by have h2 : (opKd (⟨op, ⟨kd, nu, st⟩, nm, ar⟩ : Node) ([⟨xk, xn⟩, ⟨yk, yn⟩] : List Kd)).2 = true := hok; rw [h2] at h; cases h)]; rfl)
  have e0 : (op == 0) = false := by simp; omega
  have e1 : (op == 1) = false := by simp; omega
  have e17 : (op == 17) = false := by simp; omega
  have e20 : (op == 20) = false := by simp; omega
  have e21 : (op == 21) = false := by simp; omega
  have HOP := hide hop
  clear hop
  go_enter Tryz.func121, Tryz.ntmps121
  go_upto_region 5 with (fail)
  have R : Hid (Zk (((w.alloc (.cells #[.int .i64 op, .int .i64 kd, .int .i64 nu, .string st, .string nm, .int .i64 ar] 88)).alloc (.cells #[.int .i64 0, .bool false] 167)).alloc (.cells #[.int .i64 0, .bool false] 167)) (w.heap.size + 1)) := hide (by have := (Zk.made (w.alloc (.cells #[.int .i64 op, .int .i64 kd, .int .i64 nu, .string st, .string nm, .int .i64 ar] 88)) 167).below (w' := (((w.alloc (.cells #[.int .i64 op, .int .i64 kd, .int .i64 nu, .string st, .string nm, .int .i64 ar] 88)).alloc (.cells #[.int .i64 0, .bool false] 167)).alloc (.cells #[.int .i64 0, .bool false] 167))) below_alloc; simpa using this)
  have Q : Hid (Zk (((w.alloc (.cells #[.int .i64 op, .int .i64 kd, .int .i64 nu, .string st, .string nm, .int .i64 ar] 88)).alloc (.cells #[.int .i64 0, .bool false] 167)).alloc (.cells #[.int .i64 0, .bool false] 167)) (w.heap.size + 1 + 1)) := hide (by have := Zk.made ((w.alloc (.cells #[.int .i64 op, .int .i64 kd, .int .i64 nu, .string st, .string nm, .int .i64 ar] 88)).alloc (.cells #[.int .i64 0, .bool false] 167)) 167; simpa using this)
  have N0 : (((w.alloc (.cells #[.int .i64 op, .int .i64 kd, .int .i64 nu, .string st, .string nm, .int .i64 ar] 88)).alloc (.cells #[.int .i64 0, .bool false] 167)).alloc (.cells #[.int .i64 0, .bool false] 167)).cell? ⟨w.heap.size, 0, none⟩ = some (.int .i64 op) := by simp [go_sem]
  have N1 : (((w.alloc (.cells #[.int .i64 op, .int .i64 kd, .int .i64 nu, .string st, .string nm, .int .i64 ar] 88)).alloc (.cells #[.int .i64 0, .bool false] 167)).alloc (.cells #[.int .i64 0, .bool false] 167)).cell? ⟨w.heap.size, 1, none⟩ = some (.int .i64 kd) := by simp [go_sem]
  have N4 : (((w.alloc (.cells #[.int .i64 op, .int .i64 kd, .int .i64 nu, .string st, .string nm, .int .i64 ar] 88)).alloc (.cells #[.int .i64 0, .bool false] 167)).alloc (.cells #[.int .i64 0, .bool false] 167)).cell? ⟨w.heap.size, 4, none⟩ = some (.string nm) := by simp [go_sem]
  have hb0 : Below w.heap.size w (((w.alloc (.cells #[.int .i64 op, .int .i64 kd, .int .i64 nu, .string st, .string nm, .int .i64 ar] 88)).alloc (.cells #[.int .i64 0, .bool false] 167)).alloc (.cells #[.int .i64 0, .bool false] 167)) := below_alloc3
  obtain ⟨w0, hw0⟩ : ∃ w0, w0 = (((w.alloc (.cells #[.int .i64 op, .int .i64 kd, .int .i64 nu, .string st, .string nm, .int .i64 ar] 88)).alloc (.cells #[.int .i64 0, .bool false] 167)).alloc (.cells #[.int .i64 0, .bool false] 167)) := ⟨_, rfl⟩
  rw [← hw0] at R Q N0 N1 N4 hb0
  rw [← hw0]
  clear hw0
  have hn0 : w.heap.size < w0.heap.size := Nat.lt_trans (show w.heap.size < w.heap.size + 1 by omega) R.out.lt
  have hnq : ¬ w.heap.size = w.heap.size + 1 + 1 := by omega
  have hrq : w.heap.size + 1 ≠ w.heap.size + 1 + 1 := by omega
  have hB0 : b < w0.heap.size := by have := hb0.size; omega
  have hne : ¬ b = w.heap.size + 1 + 1 := by omega
  have x0 := bat hb0 hB x0
  have x1 := bat hb0 hB x1
  have y0 := bat hb0 hB y0
  have y1 := bat hb0 hB y1
  go_region_held3 (fun V => V.cell? ⟨w.heap.size, 0, none⟩ = some (.int .i64 op) ∧ V.cell? ⟨b, off, none⟩ = some (.int .i64 xk) ∧ V.cell? ⟨b, off + 1, none⟩ = some (.bool xn) ∧ V.cell? ⟨b, off + 2, none⟩ = some (.int .i64 yk) ∧ V.cell? ⟨b, off + 2 + 1, none⟩ = some (.bool yn)) (first | exact ⟨N0, x0, x1, y0, y1⟩ | exact ⟨N0', x0', x1', y0', y1'⟩ | exact ⟨set_far (set_far N0' (.inl hnq)) (.inl hnq), set_far (set_far x0' (.inl hne)) (.inl hne), set_far (set_far x1' (.inl hne)) (.inl hne), set_far (set_far y0' (.inl hne)) (.inl hne), set_far (set_far y1' (.inl hne)) (.inl hne)⟩ | exact ⟨set_far (set_far N0 (.inl hnq)) (.inl hnq), set_far (set_far x0 (.inl hne)) (.inl hne), set_far (set_far x1 (.inl hne)) (.inl hne), set_far (set_far y0 (.inl hne)) (.inl hne), set_far (set_far y1 (.inl hne)) (.inl hne)⟩) (first | (go_at_call 182; refine (binary_ref op HOP.out xk yk xn yn _).mono ?_; rintro e w1 ⟨⟨⟨kk, kn⟩, rfl, hk⟩, hb1⟩; have HK := hide hk; clear hk; rw [hok]; simp only [Kd.cells]; have hq := below_undrew hb1; have N0' := bat hq hn0 N0; have x0' := bat hq hB0 x0; have x1' := bat hq hB0 x1; have y0' := bat hq hB0 y0; have y1' := bat hq hB0 y1; have R := hide (R.out.below hq); have Q := hide (Q.out.below hq); have hb0 := below_trans hb0 hq; clear hb1; obtain ⟨q0, q1, p0, p1, _⟩ := Q.out; obtain ⟨r0, r1, s0, s1, _⟩ := R.out))
  obtain ⟨w4, hw4⟩ : ∃ w4, w4 = (w1.setCell ⟨w.heap.size + 1 + 1, 0, none⟩ (.int .i64 kk)).setCell ⟨w.heap.size + 1 + 1, 1, none⟩ (.bool kn) := ⟨_, rfl⟩
  have R : Hid (Zk w4 (w.heap.size + 1)) := hide (by rw [hw4]; exact R.out.far hrq _ _)
  have u0 : w4.cell? ⟨w.heap.size + 1 + 1, 0, none⟩ = some (.int .i64 kk) := by rw [hw4]; exact set_two Q.out.c0 Q.out.c1 0 _ rfl
  have u1 : w4.cell? ⟨w.heap.size + 1 + 1, 1, none⟩ = some (.bool kn) := by rw [hw4]; exact set_two Q.out.c0 Q.out.c1 1 _ rfl
  have hb0 : Below w.heap.size w w4 := by rw [hw4]; exact below_set2' hb0 (by omega) _ _
  rw [← hw4]
  clear hw4 Q
  obtain ⟨r0, r1, s0, s1, _⟩ := R.out
  go_wp2
  refine bodyPost_ret (v := .tuple #[.agg (Kd.cells ⟨kk, kn⟩).toArray, .int .i64 0]) (results_cells2 (cs := Kd.cells ⟨kk, kn⟩) rfl _ _ (w.heap.size + 1) _ _ rfl rfl (set_two R.out.c0 R.out.c1) Tryz.underlying167 rfl (by kernel_rfl)) rfl ⟨by rw [HN.out, ← HK.out hok], below_set2' hb0 (by omega) _ _⟩
set_option maxHeartbeats 4000000 in
set_option maxRecDepth 100000 in
theorem node_bin_f (op kd nu ar : Int) (st nm : ByteArray) (w : World) (A1 : Option Addr) (n1 c1 : Nat) (cols : List Col) (hc : In w A1 n1 c1 cols) (A2 : Option Addr) (n2 c2 : Nat) (zs : List Zone) (hz : In w A2 n2 c2 zs) (b off c : Nat) (xk : Int) (xn : Bool) (yk : Int) (yn : Bool) (hx : In w (some ⟨b, off, none⟩) 2 c ([⟨xk, xn⟩, ⟨yk, yn⟩] : List Kd)) (hop : (4 ≤ op ∧ op ≤ 15) ∨ op = 18) (hok : (binKd op ⟨xk, xn⟩ ⟨yk, yn⟩).2 = false) :
    Calls Tryz.prog 121 #[.agg #[.int .i64 op, .int .i64 kd, .int .i64 nu, .string st, .string nm, .int .i64 ar], .slice (some ⟨b, off, none⟩) 2 c, .slice A1 n1 c1, .slice A2 n2 c2] w fun e w' => e = .returned (.tuple #[.agg (nodeKd cols zs ⟨op, ⟨kd, nu, st⟩, nm, ar⟩ ([⟨xk, xn⟩, ⟨yk, yn⟩] : List Kd)).2.cells.toArray, .int .i64 (nodeKd cols zs ⟨op, ⟨kd, nu, st⟩, nm, ar⟩ ([⟨xk, xn⟩, ⟨yk, yn⟩] : List Kd)).1]) ∧ Below w.heap.size w w' := by
  obtain ⟨hB, x0, x1⟩ := kd_cells hx (show 0 < 2 by omega) (x := ⟨xk, xn⟩) rfl
  obtain ⟨hB, y0, y1⟩ := kd_cells hx (show 1 < 2 by omega) (x := ⟨yk, yn⟩) rfl
  simp only [Nat.zero_mul, Nat.one_mul, Nat.add_zero, Nat.reduceMul] at x0 x1 y0 y1
  have HN : Hid (nodeKd cols zs ⟨op, ⟨kd, nu, st⟩, nm, ar⟩ ([⟨xk, xn⟩, ⟨yk, yn⟩] : List Kd) = (7, default)) := hide (by rw [nodeKd, if_neg (by simp only; omega), if_neg (by simp only; omega), if_neg (fun h => absurd h.1 (by simp only; omega))]; rw [if_pos (show (opKd (⟨op, ⟨kd, nu, st⟩, nm, ar⟩ : Node) ([⟨xk, xn⟩, ⟨yk, yn⟩] : List Kd)).2 = false from hok)])
  have e0 : (op == 0) = false := by simp; omega
  have e1 : (op == 1) = false := by simp; omega
  have e17 : (op == 17) = false := by simp; omega
  have e20 : (op == 20) = false := by simp; omega
  have e21 : (op == 21) = false := by simp; omega
  have HOP := hide hop
  clear hop
  go_enter Tryz.func121, Tryz.ntmps121
  go_upto_region 5 with (fail)
  have R : Hid (Zk (((w.alloc (.cells #[.int .i64 op, .int .i64 kd, .int .i64 nu, .string st, .string nm, .int .i64 ar] 88)).alloc (.cells #[.int .i64 0, .bool false] 167)).alloc (.cells #[.int .i64 0, .bool false] 167)) (w.heap.size + 1)) := hide (by have := (Zk.made (w.alloc (.cells #[.int .i64 op, .int .i64 kd, .int .i64 nu, .string st, .string nm, .int .i64 ar] 88)) 167).below (w' := (((w.alloc (.cells #[.int .i64 op, .int .i64 kd, .int .i64 nu, .string st, .string nm, .int .i64 ar] 88)).alloc (.cells #[.int .i64 0, .bool false] 167)).alloc (.cells #[.int .i64 0, .bool false] 167))) below_alloc; simpa using this)
  have Q : Hid (Zk (((w.alloc (.cells #[.int .i64 op, .int .i64 kd, .int .i64 nu, .string st, .string nm, .int .i64 ar] 88)).alloc (.cells #[.int .i64 0, .bool false] 167)).alloc (.cells #[.int .i64 0, .bool false] 167)) (w.heap.size + 1 + 1)) := hide (by have := Zk.made ((w.alloc (.cells #[.int .i64 op, .int .i64 kd, .int .i64 nu, .string st, .string nm, .int .i64 ar] 88)).alloc (.cells #[.int .i64 0, .bool false] 167)) 167; simpa using this)
  have N0 : (((w.alloc (.cells #[.int .i64 op, .int .i64 kd, .int .i64 nu, .string st, .string nm, .int .i64 ar] 88)).alloc (.cells #[.int .i64 0, .bool false] 167)).alloc (.cells #[.int .i64 0, .bool false] 167)).cell? ⟨w.heap.size, 0, none⟩ = some (.int .i64 op) := by simp [go_sem]
  have N1 : (((w.alloc (.cells #[.int .i64 op, .int .i64 kd, .int .i64 nu, .string st, .string nm, .int .i64 ar] 88)).alloc (.cells #[.int .i64 0, .bool false] 167)).alloc (.cells #[.int .i64 0, .bool false] 167)).cell? ⟨w.heap.size, 1, none⟩ = some (.int .i64 kd) := by simp [go_sem]
  have N4 : (((w.alloc (.cells #[.int .i64 op, .int .i64 kd, .int .i64 nu, .string st, .string nm, .int .i64 ar] 88)).alloc (.cells #[.int .i64 0, .bool false] 167)).alloc (.cells #[.int .i64 0, .bool false] 167)).cell? ⟨w.heap.size, 4, none⟩ = some (.string nm) := by simp [go_sem]
  have hb0 : Below w.heap.size w (((w.alloc (.cells #[.int .i64 op, .int .i64 kd, .int .i64 nu, .string st, .string nm, .int .i64 ar] 88)).alloc (.cells #[.int .i64 0, .bool false] 167)).alloc (.cells #[.int .i64 0, .bool false] 167)) := below_alloc3
  obtain ⟨w0, hw0⟩ : ∃ w0, w0 = (((w.alloc (.cells #[.int .i64 op, .int .i64 kd, .int .i64 nu, .string st, .string nm, .int .i64 ar] 88)).alloc (.cells #[.int .i64 0, .bool false] 167)).alloc (.cells #[.int .i64 0, .bool false] 167)) := ⟨_, rfl⟩
  rw [← hw0] at R Q N0 N1 N4 hb0
  rw [← hw0]
  clear hw0
  have hn0 : w.heap.size < w0.heap.size := Nat.lt_trans (show w.heap.size < w.heap.size + 1 by omega) R.out.lt
  have hnq : ¬ w.heap.size = w.heap.size + 1 + 1 := by omega
  have hrq : w.heap.size + 1 ≠ w.heap.size + 1 + 1 := by omega
  have hB0 : b < w0.heap.size := by have := hb0.size; omega
  have hne : ¬ b = w.heap.size + 1 + 1 := by omega
  have x0 := bat hb0 hB x0
  have x1 := bat hb0 hB x1
  have y0 := bat hb0 hB y0
  have y1 := bat hb0 hB y1
  go_region_held3 (fun V => V.cell? ⟨w.heap.size, 0, none⟩ = some (.int .i64 op) ∧ V.cell? ⟨b, off, none⟩ = some (.int .i64 xk) ∧ V.cell? ⟨b, off + 1, none⟩ = some (.bool xn) ∧ V.cell? ⟨b, off + 2, none⟩ = some (.int .i64 yk) ∧ V.cell? ⟨b, off + 2 + 1, none⟩ = some (.bool yn)) (first | exact ⟨N0, x0, x1, y0, y1⟩ | exact ⟨N0', x0', x1', y0', y1'⟩ | exact ⟨set_far (set_far N0' (.inl hnq)) (.inl hnq), set_far (set_far x0' (.inl hne)) (.inl hne), set_far (set_far x1' (.inl hne)) (.inl hne), set_far (set_far y0' (.inl hne)) (.inl hne), set_far (set_far y1' (.inl hne)) (.inl hne)⟩ | exact ⟨set_far (set_far N0 (.inl hnq)) (.inl hnq), set_far (set_far x0 (.inl hne)) (.inl hne), set_far (set_far x1 (.inl hne)) (.inl hne), set_far (set_far y0 (.inl hne)) (.inl hne), set_far (set_far y1 (.inl hne)) (.inl hne)⟩) (first | (go_at_call 182; refine (binary_ref op HOP.out xk yk xn yn _).mono ?_; rintro e w1 ⟨⟨⟨kk, kn⟩, rfl, hk⟩, hb1⟩; have HK := hide hk; clear hk; rw [hok]; simp only [Kd.cells]; have hq := below_undrew hb1; have N0' := bat hq hn0 N0; have x0' := bat hq hB0 x0; have x1' := bat hq hB0 x1; have y0' := bat hq hB0 y0; have y1' := bat hq hB0 y1; have R := hide (R.out.below hq); have Q := hide (Q.out.below hq); have hb0 := below_trans hb0 hq; clear hb1; obtain ⟨q0, q1, p0, p1, _⟩ := Q.out; obtain ⟨r0, r1, s0, s1, _⟩ := R.out))
  obtain ⟨w4, hw4⟩ : ∃ w4, w4 = (w1.setCell ⟨w.heap.size + 1 + 1, 0, none⟩ (.int .i64 kk)).setCell ⟨w.heap.size + 1 + 1, 1, none⟩ (.bool kn) := ⟨_, rfl⟩
  have R : Hid (Zk w4 (w.heap.size + 1)) := hide (by rw [hw4]; exact R.out.far hrq _ _)
  have u0 : w4.cell? ⟨w.heap.size + 1 + 1, 0, none⟩ = some (.int .i64 kk) := by rw [hw4]; exact set_two Q.out.c0 Q.out.c1 0 _ rfl
  have u1 : w4.cell? ⟨w.heap.size + 1 + 1, 1, none⟩ = some (.bool kn) := by rw [hw4]; exact set_two Q.out.c0 Q.out.c1 1 _ rfl
  have hb0 : Below w.heap.size w w4 := by rw [hw4]; exact below_set2' hb0 (by omega) _ _
  rw [← hw4]
  clear hw4 Q
  obtain ⟨r0, r1, s0, s1, _⟩ := R.out
  go_wp2
  refine bodyPost_ret (v := .tuple #[.agg (Kd.cells ⟨0, false⟩).toArray, .int .i64 7]) (results_cells2 (cs := Kd.cells ⟨0, false⟩) rfl _ _ (w.heap.size + 1) _ _ rfl rfl (set_two R.out.c0 R.out.c1) Tryz.underlying167 rfl (by kernel_rfl)) rfl ⟨by rw [HN.out]; rfl, below_set2' hb0 (by omega) _ _⟩
set_option maxHeartbeats 4000000 in
set_option maxRecDepth 100000 in
theorem node_1 (kd nu ar : Int) (st nm : ByteArray) (w : World) (A1 : Option Addr) (n1 c1 : Nat) (cols : List Col) (hc : In w A1 n1 c1 cols) (A2 : Option Addr) (n2 c2 : Nat) (zs : List Zone) (hz : In w A2 n2 c2 zs) (A : Option Addr) (m c : Nat) (xs : List Kd) :
    Calls Tryz.prog 121 #[.agg #[.int .i64 1, .int .i64 kd, .int .i64 nu, .string st, .string nm, .int .i64 ar], .slice A m c, .slice A1 n1 c1, .slice A2 n2 c2] w fun e w' => e = .returned (.tuple #[.agg (nodeKd cols zs ⟨1, ⟨kd, nu, st⟩, nm, ar⟩ xs).2.cells.toArray, .int .i64 (nodeKd cols zs ⟨1, ⟨kd, nu, st⟩, nm, ar⟩ xs).1]) ∧ Below w.heap.size w w' := by
  have h64 := hc.le
  go_enter Tryz.func121, Tryz.ntmps121
  go_wp2_with fail
  have R : Hid (Zk (((w.alloc (.cells #[.int .i64 1, .int .i64 kd, .int .i64 nu, .string st, .string nm, .int .i64 ar] 88)).alloc (.cells #[.int .i64 0, .bool false] 167)).alloc (.cells #[.int .i64 0, .bool false] 167)) (w.heap.size + 1)) := hide (by have := (Zk.made (w.alloc (.cells #[.int .i64 1, .int .i64 kd, .int .i64 nu, .string st, .string nm, .int .i64 ar] 88)) 167).below (w' := (((w.alloc (.cells #[.int .i64 1, .int .i64 kd, .int .i64 nu, .string st, .string nm, .int .i64 ar] 88)).alloc (.cells #[.int .i64 0, .bool false] 167)).alloc (.cells #[.int .i64 0, .bool false] 167))) below_alloc; simpa using this)
  have Q : Hid (Zk (((w.alloc (.cells #[.int .i64 1, .int .i64 kd, .int .i64 nu, .string st, .string nm, .int .i64 ar] 88)).alloc (.cells #[.int .i64 0, .bool false] 167)).alloc (.cells #[.int .i64 0, .bool false] 167)) (w.heap.size + 1 + 1)) := hide (by have := Zk.made ((w.alloc (.cells #[.int .i64 1, .int .i64 kd, .int .i64 nu, .string st, .string nm, .int .i64 ar] 88)).alloc (.cells #[.int .i64 0, .bool false] 167)) 167; simpa using this)
  have N0 : (((w.alloc (.cells #[.int .i64 1, .int .i64 kd, .int .i64 nu, .string st, .string nm, .int .i64 ar] 88)).alloc (.cells #[.int .i64 0, .bool false] 167)).alloc (.cells #[.int .i64 0, .bool false] 167)).cell? ⟨w.heap.size, 0, none⟩ = some (.int .i64 1) := by simp [go_sem]
  have N1 : (((w.alloc (.cells #[.int .i64 1, .int .i64 kd, .int .i64 nu, .string st, .string nm, .int .i64 ar] 88)).alloc (.cells #[.int .i64 0, .bool false] 167)).alloc (.cells #[.int .i64 0, .bool false] 167)).cell? ⟨w.heap.size, 1, none⟩ = some (.int .i64 kd) := by simp [go_sem]
  have N4 : (((w.alloc (.cells #[.int .i64 1, .int .i64 kd, .int .i64 nu, .string st, .string nm, .int .i64 ar] 88)).alloc (.cells #[.int .i64 0, .bool false] 167)).alloc (.cells #[.int .i64 0, .bool false] 167)).cell? ⟨w.heap.size, 4, none⟩ = some (.string nm) := by simp [go_sem]
  have hb0 : Below w.heap.size w (((w.alloc (.cells #[.int .i64 1, .int .i64 kd, .int .i64 nu, .string st, .string nm, .int .i64 ar] 88)).alloc (.cells #[.int .i64 0, .bool false] 167)).alloc (.cells #[.int .i64 0, .bool false] 167)) := below_alloc3
  obtain ⟨w0, hw0⟩ : ∃ w0, w0 = (((w.alloc (.cells #[.int .i64 1, .int .i64 kd, .int .i64 nu, .string st, .string nm, .int .i64 ar] 88)).alloc (.cells #[.int .i64 0, .bool false] 167)).alloc (.cells #[.int .i64 0, .bool false] 167)) := ⟨_, rfl⟩
  rw [← hw0] at R Q N0 N1 N4 hb0
  rw [← hw0]
  clear hw0
  have hn0 : w.heap.size < w0.heap.size := Nat.lt_trans (show w.heap.size < w.heap.size + 1 by omega) R.out.lt
  have hnq : ¬ w.heap.size = w.heap.size + 1 + 1 := by omega
  have hrq : w.heap.size + 1 ≠ w.heap.size + 1 + 1 := by omega
  refine (index_ref _ _ _ _ cols (hc.below hb0) nm).mono ?_
  rintro e w1 ⟨rfl, rfl⟩
  obtain ⟨q0, q1, p0, p1, _⟩ := Q.out
  obtain ⟨r0, r1, s0, s1, _⟩ := R.out
  rcases indexFrom_range nm cols 0 with hr | ⟨hr1, hr2⟩
  · have HN : Hid (nodeKd cols zs ⟨1, ⟨kd, nu, st⟩, nm, ar⟩ xs = (5, default)) := hide (by rw [nodeKd, if_pos rfl, if_pos (by simp only; rw [index, hr]; omega)])
    rw [show index cols nm = -1 from hr]
    clear hr
    go_wp2
    refine bodyPost_ret (v := .tuple #[.agg (Kd.cells ⟨0, false⟩).toArray, .int .i64 5]) (results_cells2 (cs := Kd.cells ⟨0, false⟩) rfl _ _ (w.heap.size + 1) _ _ rfl rfl (set_two R.out.c0 R.out.c1) Tryz.underlying167 rfl (by kernel_rfl)) rfl ⟨by rw [HN.out]; rfl, below_set2' hb0 (by omega) _ _⟩
  · obtain ⟨j, hj⟩ : ∃ j : Nat, index cols nm = (j : Int) := ⟨(index cols nm).toNat, by rw [index]; omega⟩
    have hjn : j < n1 := by have := hc.len; rw [index] at hj; omega
    obtain ⟨b', off', y, rfl, hB', HY, v0, v1, v2, yok⟩ := hc.col hjn
    have v1 := bat hb0 hB' v1
    have v2 := bat hb0 hB' v2
    have hne : ¬ b' = w.heap.size + 1 + 1 := by omega
    have HN : Hid (nodeKd cols zs ⟨1, ⟨kd, nu, st⟩, nm, ar⟩ xs = (0, ⟨y.kind, y.nullable⟩)) := hide (by
      have hy : cols.getD (index cols nm).toNat default = y := by rw [hj, Int.toNat_natCast, List.getD, (drop_get HY.out).1]; rfl
      rw [nodeKd, if_pos rfl, if_neg (by simp only; rw [hj]; omega)]
      simp only
      rw [hy])
    have k0 : (0 : Int) ≤ (j : Int) := by omega
    have k1 : (j : Int) < (n1 : Int) := by omega
    rw [hj]
    clear hr1 hr2 hj
    go_wp2
    go_region_held3 (fun V => V.cell? ⟨b', off' + j * 3 + 1, none⟩ = some (.int .i64 y.kind) ∧ V.cell? ⟨b', off' + j * 3 + 2, none⟩ = some (.bool y.nullable)) (first | exact ⟨v1, v2⟩ | exact ⟨set_far (set_far v1 (.inl hne)) (.inl hne), set_far (set_far v2 (.inl hne)) (.inl hne)⟩) (first | fail)
    obtain ⟨w4, hw4⟩ : ∃ w4, w4 = ((w0.setCell ⟨w.heap.size + 1 + 1, 0, none⟩ (.int .i64 y.kind)).setCell ⟨w.heap.size + 1 + 1, 1, none⟩ (.bool y.nullable)).drew := ⟨_, rfl⟩
    have R : Hid (Zk w4 (w.heap.size + 1)) := hide (by rw [hw4]; exact (R.out.far hrq _ _).drew)
    have u0 : w4.cell? ⟨w.heap.size + 1 + 1, 0, none⟩ = some (.int .i64 y.kind) := by rw [hw4]; exact set_two Q.out.c0 Q.out.c1 0 _ rfl
    have u1 : w4.cell? ⟨w.heap.size + 1 + 1, 1, none⟩ = some (.bool y.nullable) := by rw [hw4]; exact set_two Q.out.c0 Q.out.c1 1 _ rfl
    have hb0 : Below w.heap.size w w4 := by rw [hw4]; exact (below_set2' hb0 (by omega) _ _).drew
    rw [← hw4]
    clear hw4 Q
    obtain ⟨r0, r1, s0, s1, _⟩ := R.out
    go_wp2
    refine bodyPost_ret (v := .tuple #[.agg (Kd.cells ⟨y.kind, y.nullable⟩).toArray, .int .i64 0]) (results_cells2 (cs := Kd.cells ⟨y.kind, y.nullable⟩) rfl _ _ (w.heap.size + 1) _ _ rfl rfl (set_two R.out.c0 R.out.c1) Tryz.underlying167 rfl (by kernel_rfl)) rfl ⟨by rw [HN.out], below_set2' hb0 (by omega) _ _⟩
set_option maxHeartbeats 4000000 in
set_option maxRecDepth 100000 in
theorem node_20t (kd nu ar : Int) (st nm : ByteArray) (w : World) (A1 : Option Addr) (n1 c1 : Nat) (cols : List Col) (hc : In w A1 n1 c1 cols) (A2 : Option Addr) (n2 c2 : Nat) (zs : List Zone) (hz : In w A2 n2 c2 zs) (b off c : Nat) (xk : Int) (xn : Bool) (hx : In w (some ⟨b, off, none⟩) 1 c ([⟨xk, xn⟩] : List Kd)) (hz0 : 0 ≤ zoneIx zs nm) (hok : (unKd 20 ⟨xk, xn⟩).2 = true) :
    Calls Tryz.prog 121 #[.agg #[.int .i64 20, .int .i64 kd, .int .i64 nu, .string st, .string nm, .int .i64 ar], .slice (some ⟨b, off, none⟩) 1 c, .slice A1 n1 c1, .slice A2 n2 c2] w fun e w' => e = .returned (.tuple #[.agg (nodeKd cols zs ⟨20, ⟨kd, nu, st⟩, nm, ar⟩ ([⟨xk, xn⟩] : List Kd)).2.cells.toArray, .int .i64 (nodeKd cols zs ⟨20, ⟨kd, nu, st⟩, nm, ar⟩ ([⟨xk, xn⟩] : List Kd)).1]) ∧ Below w.heap.size w w' := by
  obtain ⟨hB, x0, x1⟩ := kd_cells hx (show 0 < 1 by omega) (x := ⟨xk, xn⟩) rfl
  simp only [Nat.zero_mul, Nat.one_mul, Nat.add_zero, Nat.reduceMul] at x0 x1
  have HN : Hid (nodeKd cols zs ⟨20, ⟨kd, nu, st⟩, nm, ar⟩ ([⟨xk, xn⟩] : List Kd) = (0, (unKd 20 ⟨xk, xn⟩).1)) := hide (by rw [nodeKd, if_neg (by simp only; omega), if_neg (by simp only; omega), if_neg (fun h => absurd h.2 (by simp only; omega))]; rw [if_neg (show ¬ (opKd (⟨20, ⟨kd, nu, st⟩, nm, ar⟩ : Node) ([⟨xk, xn⟩] : List Kd)).2 = false from fun h => by have h2 : (opKd (⟨20, ⟨kd, nu, st⟩, nm, ar⟩ : Node) ([⟨xk, xn⟩] : List Kd)).2 = true := hok; rw [h2] at h; cases h)]; rfl)
  go_enter Tryz.func121, Tryz.ntmps121
  go_wp2_with fail
  have R : Hid (Zk (((w.alloc (.cells #[.int .i64 20, .int .i64 kd, .int .i64 nu, .string st, .string nm, .int .i64 ar] 88)).alloc (.cells #[.int .i64 0, .bool false] 167)).alloc (.cells #[.int .i64 0, .bool false] 167)) (w.heap.size + 1)) := hide (by have := (Zk.made (w.alloc (.cells #[.int .i64 20, .int .i64 kd, .int .i64 nu, .string st, .string nm, .int .i64 ar] 88)) 167).below (w' := (((w.alloc (.cells #[.int .i64 20, .int .i64 kd, .int .i64 nu, .string st, .string nm, .int .i64 ar] 88)).alloc (.cells #[.int .i64 0, .bool false] 167)).alloc (.cells #[.int .i64 0, .bool false] 167))) below_alloc; simpa using this)
  have Q : Hid (Zk (((w.alloc (.cells #[.int .i64 20, .int .i64 kd, .int .i64 nu, .string st, .string nm, .int .i64 ar] 88)).alloc (.cells #[.int .i64 0, .bool false] 167)).alloc (.cells #[.int .i64 0, .bool false] 167)) (w.heap.size + 1 + 1)) := hide (by have := Zk.made ((w.alloc (.cells #[.int .i64 20, .int .i64 kd, .int .i64 nu, .string st, .string nm, .int .i64 ar] 88)).alloc (.cells #[.int .i64 0, .bool false] 167)) 167; simpa using this)
  have N0 : (((w.alloc (.cells #[.int .i64 20, .int .i64 kd, .int .i64 nu, .string st, .string nm, .int .i64 ar] 88)).alloc (.cells #[.int .i64 0, .bool false] 167)).alloc (.cells #[.int .i64 0, .bool false] 167)).cell? ⟨w.heap.size, 0, none⟩ = some (.int .i64 20) := by simp [go_sem]
  have N1 : (((w.alloc (.cells #[.int .i64 20, .int .i64 kd, .int .i64 nu, .string st, .string nm, .int .i64 ar] 88)).alloc (.cells #[.int .i64 0, .bool false] 167)).alloc (.cells #[.int .i64 0, .bool false] 167)).cell? ⟨w.heap.size, 1, none⟩ = some (.int .i64 kd) := by simp [go_sem]
  have N4 : (((w.alloc (.cells #[.int .i64 20, .int .i64 kd, .int .i64 nu, .string st, .string nm, .int .i64 ar] 88)).alloc (.cells #[.int .i64 0, .bool false] 167)).alloc (.cells #[.int .i64 0, .bool false] 167)).cell? ⟨w.heap.size, 4, none⟩ = some (.string nm) := by simp [go_sem]
  have hb0 : Below w.heap.size w (((w.alloc (.cells #[.int .i64 20, .int .i64 kd, .int .i64 nu, .string st, .string nm, .int .i64 ar] 88)).alloc (.cells #[.int .i64 0, .bool false] 167)).alloc (.cells #[.int .i64 0, .bool false] 167)) := below_alloc3
  obtain ⟨w0, hw0⟩ : ∃ w0, w0 = (((w.alloc (.cells #[.int .i64 20, .int .i64 kd, .int .i64 nu, .string st, .string nm, .int .i64 ar] 88)).alloc (.cells #[.int .i64 0, .bool false] 167)).alloc (.cells #[.int .i64 0, .bool false] 167)) := ⟨_, rfl⟩
  rw [← hw0] at R Q N0 N1 N4 hb0
  rw [← hw0]
  clear hw0
  have hn0 : w.heap.size < w0.heap.size := Nat.lt_trans (show w.heap.size < w.heap.size + 1 by omega) R.out.lt
  have hnq : ¬ w.heap.size = w.heap.size + 1 + 1 := by omega
  have hrq : w.heap.size + 1 ≠ w.heap.size + 1 + 1 := by omega
  have hB0 : b < w0.heap.size := by have := hb0.size; omega
  have hne : ¬ b = w.heap.size + 1 + 1 := by omega
  have x0 := bat hb0 hB x0
  have x1 := bat hb0 hB x1
  refine (zone_find_ref _ _ _ _ zs (hz.below hb0) nm).mono ?_
  rintro e w2 ⟨⟨A3, n3, c3, rfl, hin3, ho3⟩, hb1⟩
  have dz : decide (0 ≤ zoneIx zs nm) = true := by simpa using hz0
  have R := hide (R.out.below hb1)
  have Q := hide (Q.out.below hb1)
  have N0 := bat hb1 hn0 N0
  have x0 := bat hb1 hB0 x0
  have x1 := bat hb1 hB0 x1
  have hb0 := below_trans hb0 hb1
  have hn0 := Nat.lt_of_lt_of_le hn0 hb1.size
  have hB0 := Nat.lt_of_lt_of_le hB0 hb1.size
  clear hb1 hin3 ho3 hz0
  go_upto_region 22 with (fail)
  obtain ⟨w3, hw3⟩ : ∃ w3, w3 = w2.alloc (.cells #[.string (zoneAt zs nm).name, .int .i64 (zoneAt zs nm).offset, .slice A3 n3 c3] 112) := ⟨_, rfl⟩
  have hb1 : Below w2.heap.size w2 w3 := by rw [hw3]; exact below_alloc
  rw [← hw3]
  clear hw3
  have R := hide (R.out.below hb1)
  have Q := hide (Q.out.below hb1)
  have N0 := bat hb1 hn0 N0
  have x0 := bat hb1 hB0 x0
  have x1 := bat hb1 hB0 x1
  have hb0 := below_trans hb0 hb1
  have hn0 := Nat.lt_of_lt_of_le hn0 hb1.size
  have hB0 := Nat.lt_of_lt_of_le hB0 hb1.size
  clear hb1
  go_region_held3 (fun V => V.cell? ⟨w.heap.size, 0, none⟩ = some (.int .i64 20) ∧ V.cell? ⟨b, off, none⟩ = some (.int .i64 xk) ∧ V.cell? ⟨b, off + 1, none⟩ = some (.bool xn)) (first | exact ⟨N0, x0, x1⟩ | exact ⟨N0', x0', x1'⟩ | exact ⟨set_far (set_far N0' (.inl hnq)) (.inl hnq), set_far (set_far x0' (.inl hne)) (.inl hne), set_far (set_far x1' (.inl hne)) (.inl hne)⟩ | exact ⟨set_far (set_far N0 (.inl hnq)) (.inl hnq), set_far (set_far x0 (.inl hne)) (.inl hne), set_far (set_far x1 (.inl hne)) (.inl hne)⟩) (first | (go_at_call 181; refine (unary_ref 20 (by omega) xk xn _).mono ?_; rintro e w1 ⟨⟨⟨kk, kn⟩, rfl, hk⟩, hb1⟩; have HK := hide hk; clear hk; rw [hok]; simp only [Kd.cells]; have hq := below_undrew hb1; have N0' := bat hq hn0 N0; have x0' := bat hq hB0 x0; have x1' := bat hq hB0 x1; have R := hide (R.out.below hq); have Q := hide (Q.out.below hq); have hb0 := below_trans hb0 hq; clear hb1; obtain ⟨q0, q1, p0, p1, _⟩ := Q.out; obtain ⟨r0, r1, s0, s1, _⟩ := R.out))
  obtain ⟨w4, hw4⟩ : ∃ w4, w4 = (w1.setCell ⟨w.heap.size + 1 + 1, 0, none⟩ (.int .i64 kk)).setCell ⟨w.heap.size + 1 + 1, 1, none⟩ (.bool kn) := ⟨_, rfl⟩
  have R : Hid (Zk w4 (w.heap.size + 1)) := hide (by rw [hw4]; exact R.out.far hrq _ _)
  have u0 : w4.cell? ⟨w.heap.size + 1 + 1, 0, none⟩ = some (.int .i64 kk) := by rw [hw4]; exact set_two Q.out.c0 Q.out.c1 0 _ rfl
  have u1 : w4.cell? ⟨w.heap.size + 1 + 1, 1, none⟩ = some (.bool kn) := by rw [hw4]; exact set_two Q.out.c0 Q.out.c1 1 _ rfl
  have hb0 : Below w.heap.size w w4 := by rw [hw4]; exact below_set2' hb0 (by omega) _ _
  rw [← hw4]
  clear hw4 Q
  obtain ⟨r0, r1, s0, s1, _⟩ := R.out
  go_wp2
  refine bodyPost_ret (v := .tuple #[.agg (Kd.cells ⟨kk, kn⟩).toArray, .int .i64 0]) (results_cells2 (cs := Kd.cells ⟨kk, kn⟩) rfl _ _ (w.heap.size + 1) _ _ rfl rfl (set_two R.out.c0 R.out.c1) Tryz.underlying167 rfl (by kernel_rfl)) rfl ⟨by rw [HN.out, ← HK.out hok], below_set2' hb0 (by omega) _ _⟩
set_option maxHeartbeats 4000000 in
set_option maxRecDepth 100000 in
theorem node_20f (kd nu ar : Int) (st nm : ByteArray) (w : World) (A1 : Option Addr) (n1 c1 : Nat) (cols : List Col) (hc : In w A1 n1 c1 cols) (A2 : Option Addr) (n2 c2 : Nat) (zs : List Zone) (hz : In w A2 n2 c2 zs) (b off c : Nat) (xk : Int) (xn : Bool) (hx : In w (some ⟨b, off, none⟩) 1 c ([⟨xk, xn⟩] : List Kd)) (hz0 : 0 ≤ zoneIx zs nm) (hok : (unKd 20 ⟨xk, xn⟩).2 = false) :
    Calls Tryz.prog 121 #[.agg #[.int .i64 20, .int .i64 kd, .int .i64 nu, .string st, .string nm, .int .i64 ar], .slice (some ⟨b, off, none⟩) 1 c, .slice A1 n1 c1, .slice A2 n2 c2] w fun e w' => e = .returned (.tuple #[.agg (nodeKd cols zs ⟨20, ⟨kd, nu, st⟩, nm, ar⟩ ([⟨xk, xn⟩] : List Kd)).2.cells.toArray, .int .i64 (nodeKd cols zs ⟨20, ⟨kd, nu, st⟩, nm, ar⟩ ([⟨xk, xn⟩] : List Kd)).1]) ∧ Below w.heap.size w w' := by
  obtain ⟨hB, x0, x1⟩ := kd_cells hx (show 0 < 1 by omega) (x := ⟨xk, xn⟩) rfl
  simp only [Nat.zero_mul, Nat.one_mul, Nat.add_zero, Nat.reduceMul] at x0 x1
  have HN : Hid (nodeKd cols zs ⟨20, ⟨kd, nu, st⟩, nm, ar⟩ ([⟨xk, xn⟩] : List Kd) = (7, default)) := hide (by rw [nodeKd, if_neg (by simp only; omega), if_neg (by simp only; omega), if_neg (fun h => absurd h.2 (by simp only; omega))]; rw [if_pos (show (opKd (⟨20, ⟨kd, nu, st⟩, nm, ar⟩ : Node) ([⟨xk, xn⟩] : List Kd)).2 = false from hok)])
  go_enter Tryz.func121, Tryz.ntmps121
  go_wp2_with fail
  have R : Hid (Zk (((w.alloc (.cells #[.int .i64 20, .int .i64 kd, .int .i64 nu, .string st, .string nm, .int .i64 ar] 88)).alloc (.cells #[.int .i64 0, .bool false] 167)).alloc (.cells #[.int .i64 0, .bool false] 167)) (w.heap.size + 1)) := hide (by have := (Zk.made (w.alloc (.cells #[.int .i64 20, .int .i64 kd, .int .i64 nu, .string st, .string nm, .int .i64 ar] 88)) 167).below (w' := (((w.alloc (.cells #[.int .i64 20, .int .i64 kd, .int .i64 nu, .string st, .string nm, .int .i64 ar] 88)).alloc (.cells #[.int .i64 0, .bool false] 167)).alloc (.cells #[.int .i64 0, .bool false] 167))) below_alloc; simpa using this)
  have Q : Hid (Zk (((w.alloc (.cells #[.int .i64 20, .int .i64 kd, .int .i64 nu, .string st, .string nm, .int .i64 ar] 88)).alloc (.cells #[.int .i64 0, .bool false] 167)).alloc (.cells #[.int .i64 0, .bool false] 167)) (w.heap.size + 1 + 1)) := hide (by have := Zk.made ((w.alloc (.cells #[.int .i64 20, .int .i64 kd, .int .i64 nu, .string st, .string nm, .int .i64 ar] 88)).alloc (.cells #[.int .i64 0, .bool false] 167)) 167; simpa using this)
  have N0 : (((w.alloc (.cells #[.int .i64 20, .int .i64 kd, .int .i64 nu, .string st, .string nm, .int .i64 ar] 88)).alloc (.cells #[.int .i64 0, .bool false] 167)).alloc (.cells #[.int .i64 0, .bool false] 167)).cell? ⟨w.heap.size, 0, none⟩ = some (.int .i64 20) := by simp [go_sem]
  have N1 : (((w.alloc (.cells #[.int .i64 20, .int .i64 kd, .int .i64 nu, .string st, .string nm, .int .i64 ar] 88)).alloc (.cells #[.int .i64 0, .bool false] 167)).alloc (.cells #[.int .i64 0, .bool false] 167)).cell? ⟨w.heap.size, 1, none⟩ = some (.int .i64 kd) := by simp [go_sem]
  have N4 : (((w.alloc (.cells #[.int .i64 20, .int .i64 kd, .int .i64 nu, .string st, .string nm, .int .i64 ar] 88)).alloc (.cells #[.int .i64 0, .bool false] 167)).alloc (.cells #[.int .i64 0, .bool false] 167)).cell? ⟨w.heap.size, 4, none⟩ = some (.string nm) := by simp [go_sem]
  have hb0 : Below w.heap.size w (((w.alloc (.cells #[.int .i64 20, .int .i64 kd, .int .i64 nu, .string st, .string nm, .int .i64 ar] 88)).alloc (.cells #[.int .i64 0, .bool false] 167)).alloc (.cells #[.int .i64 0, .bool false] 167)) := below_alloc3
  obtain ⟨w0, hw0⟩ : ∃ w0, w0 = (((w.alloc (.cells #[.int .i64 20, .int .i64 kd, .int .i64 nu, .string st, .string nm, .int .i64 ar] 88)).alloc (.cells #[.int .i64 0, .bool false] 167)).alloc (.cells #[.int .i64 0, .bool false] 167)) := ⟨_, rfl⟩
  rw [← hw0] at R Q N0 N1 N4 hb0
  rw [← hw0]
  clear hw0
  have hn0 : w.heap.size < w0.heap.size := Nat.lt_trans (show w.heap.size < w.heap.size + 1 by omega) R.out.lt
  have hnq : ¬ w.heap.size = w.heap.size + 1 + 1 := by omega
  have hrq : w.heap.size + 1 ≠ w.heap.size + 1 + 1 := by omega
  have hB0 : b < w0.heap.size := by have := hb0.size; omega
  have hne : ¬ b = w.heap.size + 1 + 1 := by omega
  have x0 := bat hb0 hB x0
  have x1 := bat hb0 hB x1
  refine (zone_find_ref _ _ _ _ zs (hz.below hb0) nm).mono ?_
  rintro e w2 ⟨⟨A3, n3, c3, rfl, hin3, ho3⟩, hb1⟩
  have dz : decide (0 ≤ zoneIx zs nm) = true := by simpa using hz0
  have R := hide (R.out.below hb1)
  have Q := hide (Q.out.below hb1)
  have N0 := bat hb1 hn0 N0
  have x0 := bat hb1 hB0 x0
  have x1 := bat hb1 hB0 x1
  have hb0 := below_trans hb0 hb1
  have hn0 := Nat.lt_of_lt_of_le hn0 hb1.size
  have hB0 := Nat.lt_of_lt_of_le hB0 hb1.size
  clear hb1 hin3 ho3 hz0
  go_upto_region 22 with (fail)
  obtain ⟨w3, hw3⟩ : ∃ w3, w3 = w2.alloc (.cells #[.string (zoneAt zs nm).name, .int .i64 (zoneAt zs nm).offset, .slice A3 n3 c3] 112) := ⟨_, rfl⟩
  have hb1 : Below w2.heap.size w2 w3 := by rw [hw3]; exact below_alloc
  rw [← hw3]
  clear hw3
  have R := hide (R.out.below hb1)
  have Q := hide (Q.out.below hb1)
  have N0 := bat hb1 hn0 N0
  have x0 := bat hb1 hB0 x0
  have x1 := bat hb1 hB0 x1
  have hb0 := below_trans hb0 hb1
  have hn0 := Nat.lt_of_lt_of_le hn0 hb1.size
  have hB0 := Nat.lt_of_lt_of_le hB0 hb1.size
  clear hb1
  go_region_held3 (fun V => V.cell? ⟨w.heap.size, 0, none⟩ = some (.int .i64 20) ∧ V.cell? ⟨b, off, none⟩ = some (.int .i64 xk) ∧ V.cell? ⟨b, off + 1, none⟩ = some (.bool xn)) (first | exact ⟨N0, x0, x1⟩ | exact ⟨N0', x0', x1'⟩ | exact ⟨set_far (set_far N0' (.inl hnq)) (.inl hnq), set_far (set_far x0' (.inl hne)) (.inl hne), set_far (set_far x1' (.inl hne)) (.inl hne)⟩ | exact ⟨set_far (set_far N0 (.inl hnq)) (.inl hnq), set_far (set_far x0 (.inl hne)) (.inl hne), set_far (set_far x1 (.inl hne)) (.inl hne)⟩) (first | (go_at_call 181; refine (unary_ref 20 (by omega) xk xn _).mono ?_; rintro e w1 ⟨⟨⟨kk, kn⟩, rfl, hk⟩, hb1⟩; have HK := hide hk; clear hk; rw [hok]; simp only [Kd.cells]; have hq := below_undrew hb1; have N0' := bat hq hn0 N0; have x0' := bat hq hB0 x0; have x1' := bat hq hB0 x1; have R := hide (R.out.below hq); have Q := hide (Q.out.below hq); have hb0 := below_trans hb0 hq; clear hb1; obtain ⟨q0, q1, p0, p1, _⟩ := Q.out; obtain ⟨r0, r1, s0, s1, _⟩ := R.out))
  obtain ⟨w4, hw4⟩ : ∃ w4, w4 = (w1.setCell ⟨w.heap.size + 1 + 1, 0, none⟩ (.int .i64 kk)).setCell ⟨w.heap.size + 1 + 1, 1, none⟩ (.bool kn) := ⟨_, rfl⟩
  have R : Hid (Zk w4 (w.heap.size + 1)) := hide (by rw [hw4]; exact R.out.far hrq _ _)
  have u0 : w4.cell? ⟨w.heap.size + 1 + 1, 0, none⟩ = some (.int .i64 kk) := by rw [hw4]; exact set_two Q.out.c0 Q.out.c1 0 _ rfl
  have u1 : w4.cell? ⟨w.heap.size + 1 + 1, 1, none⟩ = some (.bool kn) := by rw [hw4]; exact set_two Q.out.c0 Q.out.c1 1 _ rfl
  have hb0 : Below w.heap.size w w4 := by rw [hw4]; exact below_set2' hb0 (by omega) _ _
  rw [← hw4]
  clear hw4 Q
  obtain ⟨r0, r1, s0, s1, _⟩ := R.out
  go_wp2
  refine bodyPost_ret (v := .tuple #[.agg (Kd.cells ⟨0, false⟩).toArray, .int .i64 7]) (results_cells2 (cs := Kd.cells ⟨0, false⟩) rfl _ _ (w.heap.size + 1) _ _ rfl rfl (set_two R.out.c0 R.out.c1) Tryz.underlying167 rfl (by kernel_rfl)) rfl ⟨by rw [HN.out]; rfl, below_set2' hb0 (by omega) _ _⟩
set_option maxHeartbeats 4000000 in
set_option maxRecDepth 100000 in
theorem node_20n (kd nu ar : Int) (st nm : ByteArray) (w : World) (A1 : Option Addr) (n1 c1 : Nat) (cols : List Col) (hc : In w A1 n1 c1 cols) (A2 : Option Addr) (n2 c2 : Nat) (zs : List Zone) (hz : In w A2 n2 c2 zs) (A : Option Addr) (m c : Nat) (xs : List Kd) (hz0 : zoneIx zs nm < 0) :
    Calls Tryz.prog 121 #[.agg #[.int .i64 20, .int .i64 kd, .int .i64 nu, .string st, .string nm, .int .i64 ar], .slice A m c, .slice A1 n1 c1, .slice A2 n2 c2] w fun e w' => e = .returned (.tuple #[.agg (nodeKd cols zs ⟨20, ⟨kd, nu, st⟩, nm, ar⟩ xs).2.cells.toArray, .int .i64 (nodeKd cols zs ⟨20, ⟨kd, nu, st⟩, nm, ar⟩ xs).1]) ∧ Below w.heap.size w w' := by
  have HN : Hid (nodeKd cols zs ⟨20, ⟨kd, nu, st⟩, nm, ar⟩ xs = (5, default)) := hide (by rw [nodeKd, if_neg (by simp only; omega), if_neg (by simp only; omega), if_pos ⟨rfl, hz0⟩])
  go_enter Tryz.func121, Tryz.ntmps121
  go_wp2_with fail
  have R : Hid (Zk (((w.alloc (.cells #[.int .i64 20, .int .i64 kd, .int .i64 nu, .string st, .string nm, .int .i64 ar] 88)).alloc (.cells #[.int .i64 0, .bool false] 167)).alloc (.cells #[.int .i64 0, .bool false] 167)) (w.heap.size + 1)) := hide (by have := (Zk.made (w.alloc (.cells #[.int .i64 20, .int .i64 kd, .int .i64 nu, .string st, .string nm, .int .i64 ar] 88)) 167).below (w' := (((w.alloc (.cells #[.int .i64 20, .int .i64 kd, .int .i64 nu, .string st, .string nm, .int .i64 ar] 88)).alloc (.cells #[.int .i64 0, .bool false] 167)).alloc (.cells #[.int .i64 0, .bool false] 167))) below_alloc; simpa using this)
  have Q : Hid (Zk (((w.alloc (.cells #[.int .i64 20, .int .i64 kd, .int .i64 nu, .string st, .string nm, .int .i64 ar] 88)).alloc (.cells #[.int .i64 0, .bool false] 167)).alloc (.cells #[.int .i64 0, .bool false] 167)) (w.heap.size + 1 + 1)) := hide (by have := Zk.made ((w.alloc (.cells #[.int .i64 20, .int .i64 kd, .int .i64 nu, .string st, .string nm, .int .i64 ar] 88)).alloc (.cells #[.int .i64 0, .bool false] 167)) 167; simpa using this)
  have N0 : (((w.alloc (.cells #[.int .i64 20, .int .i64 kd, .int .i64 nu, .string st, .string nm, .int .i64 ar] 88)).alloc (.cells #[.int .i64 0, .bool false] 167)).alloc (.cells #[.int .i64 0, .bool false] 167)).cell? ⟨w.heap.size, 0, none⟩ = some (.int .i64 20) := by simp [go_sem]
  have N1 : (((w.alloc (.cells #[.int .i64 20, .int .i64 kd, .int .i64 nu, .string st, .string nm, .int .i64 ar] 88)).alloc (.cells #[.int .i64 0, .bool false] 167)).alloc (.cells #[.int .i64 0, .bool false] 167)).cell? ⟨w.heap.size, 1, none⟩ = some (.int .i64 kd) := by simp [go_sem]
  have N4 : (((w.alloc (.cells #[.int .i64 20, .int .i64 kd, .int .i64 nu, .string st, .string nm, .int .i64 ar] 88)).alloc (.cells #[.int .i64 0, .bool false] 167)).alloc (.cells #[.int .i64 0, .bool false] 167)).cell? ⟨w.heap.size, 4, none⟩ = some (.string nm) := by simp [go_sem]
  have hb0 : Below w.heap.size w (((w.alloc (.cells #[.int .i64 20, .int .i64 kd, .int .i64 nu, .string st, .string nm, .int .i64 ar] 88)).alloc (.cells #[.int .i64 0, .bool false] 167)).alloc (.cells #[.int .i64 0, .bool false] 167)) := below_alloc3
  obtain ⟨w0, hw0⟩ : ∃ w0, w0 = (((w.alloc (.cells #[.int .i64 20, .int .i64 kd, .int .i64 nu, .string st, .string nm, .int .i64 ar] 88)).alloc (.cells #[.int .i64 0, .bool false] 167)).alloc (.cells #[.int .i64 0, .bool false] 167)) := ⟨_, rfl⟩
  rw [← hw0] at R Q N0 N1 N4 hb0
  rw [← hw0]
  clear hw0
  have hn0 : w.heap.size < w0.heap.size := Nat.lt_trans (show w.heap.size < w.heap.size + 1 by omega) R.out.lt
  have hnq : ¬ w.heap.size = w.heap.size + 1 + 1 := by omega
  have hrq : w.heap.size + 1 ≠ w.heap.size + 1 + 1 := by omega
  refine (zone_find_ref _ _ _ _ zs (hz.below hb0) nm).mono ?_
  rintro e w2 ⟨⟨A3, n3, c3, rfl, hin3, ho3⟩, hb1⟩
  have dz : decide (0 ≤ zoneIx zs nm) = false := by simp; omega
  have R := hide (R.out.below hb1)
  have hb0 := below_trans hb0 hb1
  clear hb1 hin3 ho3 hz0
  obtain ⟨w3, hw3⟩ : ∃ w3, w3 = w2.alloc (.cells #[.string (zoneAt zs nm).name, .int .i64 (zoneAt zs nm).offset, .slice A3 n3 c3] 112) := ⟨_, rfl⟩
  have hb1 : Below w2.heap.size w2 w3 := by rw [hw3]; exact below_alloc
  go_upto_region 21 with (fail)
  rw [← hw3]
  clear hw3
  have R := hide (R.out.below hb1)
  have hb0 := below_trans hb0 hb1
  clear hb1
  obtain ⟨r0, r1, s0, s1, _⟩ := R.out
  go_wp2
  refine bodyPost_ret (v := .tuple #[.agg (Kd.cells ⟨0, false⟩).toArray, .int .i64 5]) (results_cells2 (cs := Kd.cells ⟨0, false⟩) rfl _ _ (w.heap.size + 1) _ _ rfl rfl (set_two R.out.c0 R.out.c1) Tryz.underlying167 rfl (by kernel_rfl)) rfl ⟨by rw [HN.out]; rfl, below_set2' hb0 (by omega) _ _⟩
set_option maxHeartbeats 4000000 in
set_option maxRecDepth 100000 in
theorem node_17_ff (kd nu ar : Int) (st nm : ByteArray) (w : World) (A1 : Option Addr) (n1 c1 : Nat) (cols : List Col) (hc : In w A1 n1 c1 cols) (A2 : Option Addr) (n2 c2 : Nat) (zs : List Zone) (hz : In w A2 n2 c2 zs) (b off c : Nat) (xk : Int) (xn : Bool) (yk : Int) (zk : Int) (zn : Bool) (hx : In w (some ⟨b, off, none⟩) 3 c ([⟨xk, xn⟩, ⟨yk, false⟩, ⟨zk, zn⟩] : List Kd)) (hco : (common ⟨yk, false⟩ ⟨zk, zn⟩).2 = false) :
    Calls Tryz.prog 121 #[.agg #[.int .i64 17, .int .i64 kd, .int .i64 nu, .string st, .string nm, .int .i64 ar], .slice (some ⟨b, off, none⟩) 3 c, .slice A1 n1 c1, .slice A2 n2 c2] w fun e w' => e = .returned (.tuple #[.agg (nodeKd cols zs ⟨17, ⟨kd, nu, st⟩, nm, ar⟩ ([⟨xk, xn⟩, ⟨yk, false⟩, ⟨zk, zn⟩] : List Kd)).2.cells.toArray, .int .i64 (nodeKd cols zs ⟨17, ⟨kd, nu, st⟩, nm, ar⟩ ([⟨xk, xn⟩, ⟨yk, false⟩, ⟨zk, zn⟩] : List Kd)).1]) ∧ Below w.heap.size w w' := by
  obtain ⟨hB, x0, x1⟩ := kd_cells hx (show 0 < 3 by omega) (x := ⟨xk, xn⟩) rfl
  obtain ⟨hB, y0, y1⟩ := kd_cells hx (show 1 < 3 by omega) (x := ⟨yk, false⟩) rfl
  obtain ⟨hB, z0, z1⟩ := kd_cells hx (show 2 < 3 by omega) (x := ⟨zk, zn⟩) rfl
  simp only [Nat.zero_mul, Nat.one_mul, Nat.add_zero, Nat.reduceMul] at x0 x1 y0 y1 z0 z1
  have HN : Hid (nodeKd cols zs ⟨17, ⟨kd, nu, st⟩, nm, ar⟩ ([⟨xk, xn⟩, ⟨yk, false⟩, ⟨zk, zn⟩] : List Kd) = (7, default)) := hide (by rw [nodeKd, if_neg (by simp only; omega), if_neg (by simp only; omega), if_neg (fun h => absurd h.1 (by simp only; omega)), if_pos (show (opKd (⟨17, ⟨kd, nu, st⟩, nm, ar⟩ : Node) ([⟨xk, xn⟩, ⟨yk, false⟩, ⟨zk, zn⟩] : List Kd)).2 = false from by show ((common ⟨yk, false⟩ ⟨zk, zn⟩).2 && fits ⟨xk, xn⟩ 1) = false; rw [hco]; rfl)])
  go_enter Tryz.func121, Tryz.ntmps121
  go_upto_region 16 with (fail)
  have R : Hid (Zk (((w.alloc (.cells #[.int .i64 17, .int .i64 kd, .int .i64 nu, .string st, .string nm, .int .i64 ar] 88)).alloc (.cells #[.int .i64 0, .bool false] 167)).alloc (.cells #[.int .i64 0, .bool false] 167)) (w.heap.size + 1)) := hide (by have := (Zk.made (w.alloc (.cells #[.int .i64 17, .int .i64 kd, .int .i64 nu, .string st, .string nm, .int .i64 ar] 88)) 167).below (w' := (((w.alloc (.cells #[.int .i64 17, .int .i64 kd, .int .i64 nu, .string st, .string nm, .int .i64 ar] 88)).alloc (.cells #[.int .i64 0, .bool false] 167)).alloc (.cells #[.int .i64 0, .bool false] 167))) below_alloc; simpa using this)
  have Q : Hid (Zk (((w.alloc (.cells #[.int .i64 17, .int .i64 kd, .int .i64 nu, .string st, .string nm, .int .i64 ar] 88)).alloc (.cells #[.int .i64 0, .bool false] 167)).alloc (.cells #[.int .i64 0, .bool false] 167)) (w.heap.size + 1 + 1)) := hide (by have := Zk.made ((w.alloc (.cells #[.int .i64 17, .int .i64 kd, .int .i64 nu, .string st, .string nm, .int .i64 ar] 88)).alloc (.cells #[.int .i64 0, .bool false] 167)) 167; simpa using this)
  have N0 : (((w.alloc (.cells #[.int .i64 17, .int .i64 kd, .int .i64 nu, .string st, .string nm, .int .i64 ar] 88)).alloc (.cells #[.int .i64 0, .bool false] 167)).alloc (.cells #[.int .i64 0, .bool false] 167)).cell? ⟨w.heap.size, 0, none⟩ = some (.int .i64 17) := by simp [go_sem]
  have N1 : (((w.alloc (.cells #[.int .i64 17, .int .i64 kd, .int .i64 nu, .string st, .string nm, .int .i64 ar] 88)).alloc (.cells #[.int .i64 0, .bool false] 167)).alloc (.cells #[.int .i64 0, .bool false] 167)).cell? ⟨w.heap.size, 1, none⟩ = some (.int .i64 kd) := by simp [go_sem]
  have N4 : (((w.alloc (.cells #[.int .i64 17, .int .i64 kd, .int .i64 nu, .string st, .string nm, .int .i64 ar] 88)).alloc (.cells #[.int .i64 0, .bool false] 167)).alloc (.cells #[.int .i64 0, .bool false] 167)).cell? ⟨w.heap.size, 4, none⟩ = some (.string nm) := by simp [go_sem]
  have hb0 : Below w.heap.size w (((w.alloc (.cells #[.int .i64 17, .int .i64 kd, .int .i64 nu, .string st, .string nm, .int .i64 ar] 88)).alloc (.cells #[.int .i64 0, .bool false] 167)).alloc (.cells #[.int .i64 0, .bool false] 167)) := below_alloc3
  obtain ⟨w0, hw0⟩ : ∃ w0, w0 = (((w.alloc (.cells #[.int .i64 17, .int .i64 kd, .int .i64 nu, .string st, .string nm, .int .i64 ar] 88)).alloc (.cells #[.int .i64 0, .bool false] 167)).alloc (.cells #[.int .i64 0, .bool false] 167)) := ⟨_, rfl⟩
  rw [← hw0] at R Q N0 N1 N4 hb0
  rw [← hw0]
  clear hw0
  have hn0 : w.heap.size < w0.heap.size := Nat.lt_trans (show w.heap.size < w.heap.size + 1 by omega) R.out.lt
  have hnq : ¬ w.heap.size = w.heap.size + 1 + 1 := by omega
  have hrq : w.heap.size + 1 ≠ w.heap.size + 1 + 1 := by omega
  have hB0 : b < w0.heap.size := by have := hb0.size; omega
  have hne : ¬ b = w.heap.size + 1 + 1 := by omega
  have x0 := bat hb0 hB x0
  have x1 := bat hb0 hB x1
  have y0 := bat hb0 hB y0
  have y1 := bat hb0 hB y1
  have z0 := bat hb0 hB z0
  have z1 := bat hb0 hB z1
  go_region_held3 (fun V => V.cell? ⟨b, off, none⟩ = some (.int .i64 xk) ∧ V.cell? ⟨b, off + 1, none⟩ = some (.bool xn) ∧ V.cell? ⟨b, off + 2, none⟩ = some (.int .i64 yk) ∧ V.cell? ⟨b, off + 2 + 1, none⟩ = some (.bool false) ∧ V.cell? ⟨b, off + 4, none⟩ = some (.int .i64 zk) ∧ V.cell? ⟨b, off + 4 + 1, none⟩ = some (.bool zn)) (first | exact ⟨x0, x1, y0, y1, z0, z1⟩ | exact ⟨x0', x1', y0', y1', z0', z1'⟩ | exact ⟨set_far (set_far x0' (.inl hne)) (.inl hne), set_far (set_far x1' (.inl hne)) (.inl hne), set_far (set_far y0' (.inl hne)) (.inl hne), set_far (set_far y1' (.inl hne)) (.inl hne), set_far (set_far z0' (.inl hne)) (.inl hne), set_far (set_far z1' (.inl hne)) (.inl hne)⟩ | exact ⟨set_far (set_far x0 (.inl hne)) (.inl hne), set_far (set_far x1 (.inl hne)) (.inl hne), set_far (set_far y0 (.inl hne)) (.inl hne), set_far (set_far y1 (.inl hne)) (.inl hne), set_far (set_far z0 (.inl hne)) (.inl hne), set_far (set_far z1 (.inl hne)) (.inl hne)⟩) (first | (go_at_call 178; refine (common_ref _ _ _ _ _).mono ?_; rintro e w1 ⟨rfl, hb1⟩; rw [hco]; generalize hck : (common ⟨yk, false⟩ ⟨zk, zn⟩).1 = ck; have HCK := hide hck; clear hck; have hq := below_undrew hb1; have x0' := bat hq hB0 x0; have x1' := bat hq hB0 x1; have y0' := bat hq hB0 y0; have y1' := bat hq hB0 y1; have z0' := bat hq hB0 z0; have z1' := bat hq hB0 z1; have R := hide (R.out.below hq); have Q := hide (Q.out.below hq); have hb0 := below_trans hb0 hq; clear hb1; obtain ⟨q0, q1, p0, p1, _⟩ := Q.out; obtain ⟨r0, r1, s0, s1, _⟩ := R.out))
  have x0 := x0'
  have x1 := x1'
  have y0 := y0'
  have y1 := y1'
  have z0 := z0'
  have z1 := z1'
  clear x0' x1' y0' y1' z0' z1'
  have hB0 := Nat.lt_of_lt_of_le hB0 hq.size
  have hn0 := Nat.lt_of_lt_of_le hn0 hq.size
  clear hq
  go_upto_region 17 with (fail)
  go_region
  all_goals
    obtain ⟨w4, hw4⟩ : ∃ w4, w4 = ((w1.setCell ⟨w.heap.size + 1 + 1, 0, none⟩ (.int .i64 ck)).setCell ⟨w.heap.size + 1 + 1, 1, none⟩ (.bool zn)).drew := ⟨_, rfl⟩
    have R : Hid (Zk w4 (w.heap.size + 1)) := hide (by rw [hw4]; exact (R.out.far hrq _ _).drew)
    have u0 : w4.cell? ⟨w.heap.size + 1 + 1, 0, none⟩ = some (.int .i64 ck) := by rw [hw4]; exact set_two Q.out.c0 Q.out.c1 0 _ rfl
    have u1 : w4.cell? ⟨w.heap.size + 1 + 1, 1, none⟩ = some (.bool zn) := by rw [hw4]; exact set_two Q.out.c0 Q.out.c1 1 _ rfl
    have hb0 : Below w.heap.size w w4 := by rw [hw4]; exact (below_set2' hb0 (by omega) _ _).drew
    rw [← hw4]
    clear hw4 Q
    obtain ⟨r0, r1, s0, s1, _⟩ := R.out
    go_wp2
    refine bodyPost_ret (v := .tuple #[.agg (Kd.cells ⟨0, false⟩).toArray, .int .i64 7]) (results_cells2 (cs := Kd.cells ⟨0, false⟩) rfl _ _ (w.heap.size + 1) _ _ rfl rfl (set_two R.out.c0 R.out.c1) Tryz.underlying167 rfl (by kernel_rfl)) rfl ⟨by rw [HN.out]; rfl, below_set2' hb0 (by omega) _ _⟩
set_option maxHeartbeats 4000000 in
set_option maxRecDepth 100000 in
theorem node_17_tf (kd nu ar : Int) (st nm : ByteArray) (w : World) (A1 : Option Addr) (n1 c1 : Nat) (cols : List Col) (hc : In w A1 n1 c1 cols) (A2 : Option Addr) (n2 c2 : Nat) (zs : List Zone) (hz : In w A2 n2 c2 zs) (b off c : Nat) (xk : Int) (xn : Bool) (yk : Int) (zk : Int) (zn : Bool) (hx : In w (some ⟨b, off, none⟩) 3 c ([⟨xk, xn⟩, ⟨yk, true⟩, ⟨zk, zn⟩] : List Kd)) (hco : (common ⟨yk, true⟩ ⟨zk, zn⟩).2 = false) :
    Calls Tryz.prog 121 #[.agg #[.int .i64 17, .int .i64 kd, .int .i64 nu, .string st, .string nm, .int .i64 ar], .slice (some ⟨b, off, none⟩) 3 c, .slice A1 n1 c1, .slice A2 n2 c2] w fun e w' => e = .returned (.tuple #[.agg (nodeKd cols zs ⟨17, ⟨kd, nu, st⟩, nm, ar⟩ ([⟨xk, xn⟩, ⟨yk, true⟩, ⟨zk, zn⟩] : List Kd)).2.cells.toArray, .int .i64 (nodeKd cols zs ⟨17, ⟨kd, nu, st⟩, nm, ar⟩ ([⟨xk, xn⟩, ⟨yk, true⟩, ⟨zk, zn⟩] : List Kd)).1]) ∧ Below w.heap.size w w' := by
  obtain ⟨hB, x0, x1⟩ := kd_cells hx (show 0 < 3 by omega) (x := ⟨xk, xn⟩) rfl
  obtain ⟨hB, y0, y1⟩ := kd_cells hx (show 1 < 3 by omega) (x := ⟨yk, true⟩) rfl
  obtain ⟨hB, z0, z1⟩ := kd_cells hx (show 2 < 3 by omega) (x := ⟨zk, zn⟩) rfl
  simp only [Nat.zero_mul, Nat.one_mul, Nat.add_zero, Nat.reduceMul] at x0 x1 y0 y1 z0 z1
  have HN : Hid (nodeKd cols zs ⟨17, ⟨kd, nu, st⟩, nm, ar⟩ ([⟨xk, xn⟩, ⟨yk, true⟩, ⟨zk, zn⟩] : List Kd) = (7, default)) := hide (by rw [nodeKd, if_neg (by simp only; omega), if_neg (by simp only; omega), if_neg (fun h => absurd h.1 (by simp only; omega)), if_pos (show (opKd (⟨17, ⟨kd, nu, st⟩, nm, ar⟩ : Node) ([⟨xk, xn⟩, ⟨yk, true⟩, ⟨zk, zn⟩] : List Kd)).2 = false from by show ((common ⟨yk, true⟩ ⟨zk, zn⟩).2 && fits ⟨xk, xn⟩ 1) = false; rw [hco]; rfl)])
  go_enter Tryz.func121, Tryz.ntmps121
  go_upto_region 16 with (fail)
  have R : Hid (Zk (((w.alloc (.cells #[.int .i64 17, .int .i64 kd, .int .i64 nu, .string st, .string nm, .int .i64 ar] 88)).alloc (.cells #[.int .i64 0, .bool false] 167)).alloc (.cells #[.int .i64 0, .bool false] 167)) (w.heap.size + 1)) := hide (by have := (Zk.made (w.alloc (.cells #[.int .i64 17, .int .i64 kd, .int .i64 nu, .string st, .string nm, .int .i64 ar] 88)) 167).below (w' := (((w.alloc (.cells #[.int .i64 17, .int .i64 kd, .int .i64 nu, .string st, .string nm, .int .i64 ar] 88)).alloc (.cells #[.int .i64 0, .bool false] 167)).alloc (.cells #[.int .i64 0, .bool false] 167))) below_alloc; simpa using this)
  have Q : Hid (Zk (((w.alloc (.cells #[.int .i64 17, .int .i64 kd, .int .i64 nu, .string st, .string nm, .int .i64 ar] 88)).alloc (.cells #[.int .i64 0, .bool false] 167)).alloc (.cells #[.int .i64 0, .bool false] 167)) (w.heap.size + 1 + 1)) := hide (by have := Zk.made ((w.alloc (.cells #[.int .i64 17, .int .i64 kd, .int .i64 nu, .string st, .string nm, .int .i64 ar] 88)).alloc (.cells #[.int .i64 0, .bool false] 167)) 167; simpa using this)
  have N0 : (((w.alloc (.cells #[.int .i64 17, .int .i64 kd, .int .i64 nu, .string st, .string nm, .int .i64 ar] 88)).alloc (.cells #[.int .i64 0, .bool false] 167)).alloc (.cells #[.int .i64 0, .bool false] 167)).cell? ⟨w.heap.size, 0, none⟩ = some (.int .i64 17) := by simp [go_sem]
  have N1 : (((w.alloc (.cells #[.int .i64 17, .int .i64 kd, .int .i64 nu, .string st, .string nm, .int .i64 ar] 88)).alloc (.cells #[.int .i64 0, .bool false] 167)).alloc (.cells #[.int .i64 0, .bool false] 167)).cell? ⟨w.heap.size, 1, none⟩ = some (.int .i64 kd) := by simp [go_sem]
  have N4 : (((w.alloc (.cells #[.int .i64 17, .int .i64 kd, .int .i64 nu, .string st, .string nm, .int .i64 ar] 88)).alloc (.cells #[.int .i64 0, .bool false] 167)).alloc (.cells #[.int .i64 0, .bool false] 167)).cell? ⟨w.heap.size, 4, none⟩ = some (.string nm) := by simp [go_sem]
  have hb0 : Below w.heap.size w (((w.alloc (.cells #[.int .i64 17, .int .i64 kd, .int .i64 nu, .string st, .string nm, .int .i64 ar] 88)).alloc (.cells #[.int .i64 0, .bool false] 167)).alloc (.cells #[.int .i64 0, .bool false] 167)) := below_alloc3
  obtain ⟨w0, hw0⟩ : ∃ w0, w0 = (((w.alloc (.cells #[.int .i64 17, .int .i64 kd, .int .i64 nu, .string st, .string nm, .int .i64 ar] 88)).alloc (.cells #[.int .i64 0, .bool false] 167)).alloc (.cells #[.int .i64 0, .bool false] 167)) := ⟨_, rfl⟩
  rw [← hw0] at R Q N0 N1 N4 hb0
  rw [← hw0]
  clear hw0
  have hn0 : w.heap.size < w0.heap.size := Nat.lt_trans (show w.heap.size < w.heap.size + 1 by omega) R.out.lt
  have hnq : ¬ w.heap.size = w.heap.size + 1 + 1 := by omega
  have hrq : w.heap.size + 1 ≠ w.heap.size + 1 + 1 := by omega
  have hB0 : b < w0.heap.size := by have := hb0.size; omega
  have hne : ¬ b = w.heap.size + 1 + 1 := by omega
  have x0 := bat hb0 hB x0
  have x1 := bat hb0 hB x1
  have y0 := bat hb0 hB y0
  have y1 := bat hb0 hB y1
  have z0 := bat hb0 hB z0
  have z1 := bat hb0 hB z1
  go_region_held3 (fun V => V.cell? ⟨b, off, none⟩ = some (.int .i64 xk) ∧ V.cell? ⟨b, off + 1, none⟩ = some (.bool xn) ∧ V.cell? ⟨b, off + 2, none⟩ = some (.int .i64 yk) ∧ V.cell? ⟨b, off + 2 + 1, none⟩ = some (.bool true) ∧ V.cell? ⟨b, off + 4, none⟩ = some (.int .i64 zk) ∧ V.cell? ⟨b, off + 4 + 1, none⟩ = some (.bool zn)) (first | exact ⟨x0, x1, y0, y1, z0, z1⟩ | exact ⟨x0', x1', y0', y1', z0', z1'⟩ | exact ⟨set_far (set_far x0' (.inl hne)) (.inl hne), set_far (set_far x1' (.inl hne)) (.inl hne), set_far (set_far y0' (.inl hne)) (.inl hne), set_far (set_far y1' (.inl hne)) (.inl hne), set_far (set_far z0' (.inl hne)) (.inl hne), set_far (set_far z1' (.inl hne)) (.inl hne)⟩ | exact ⟨set_far (set_far x0 (.inl hne)) (.inl hne), set_far (set_far x1 (.inl hne)) (.inl hne), set_far (set_far y0 (.inl hne)) (.inl hne), set_far (set_far y1 (.inl hne)) (.inl hne), set_far (set_far z0 (.inl hne)) (.inl hne), set_far (set_far z1 (.inl hne)) (.inl hne)⟩) (first | (go_at_call 178; refine (common_ref _ _ _ _ _).mono ?_; rintro e w1 ⟨rfl, hb1⟩; rw [hco]; generalize hck : (common ⟨yk, true⟩ ⟨zk, zn⟩).1 = ck; have HCK := hide hck; clear hck; have hq := below_undrew hb1; have x0' := bat hq hB0 x0; have x1' := bat hq hB0 x1; have y0' := bat hq hB0 y0; have y1' := bat hq hB0 y1; have z0' := bat hq hB0 z0; have z1' := bat hq hB0 z1; have R := hide (R.out.below hq); have Q := hide (Q.out.below hq); have hb0 := below_trans hb0 hq; clear hb1; obtain ⟨q0, q1, p0, p1, _⟩ := Q.out; obtain ⟨r0, r1, s0, s1, _⟩ := R.out))
  have x0 := x0'
  have x1 := x1'
  have y0 := y0'
  have y1 := y1'
  have z0 := z0'
  have z1 := z1'
  clear x0' x1' y0' y1' z0' z1'
  have hB0 := Nat.lt_of_lt_of_le hB0 hq.size
  have hn0 := Nat.lt_of_lt_of_le hn0 hq.size
  clear hq
  go_upto_region 17 with (fail)
  go_region
  all_goals
    obtain ⟨w4, hw4⟩ : ∃ w4, w4 = ((w1.setCell ⟨w.heap.size + 1 + 1, 0, none⟩ (.int .i64 ck)).setCell ⟨w.heap.size + 1 + 1, 1, none⟩ (.bool true)).drew := ⟨_, rfl⟩
    have R : Hid (Zk w4 (w.heap.size + 1)) := hide (by rw [hw4]; exact (R.out.far hrq _ _).drew)
    have u0 : w4.cell? ⟨w.heap.size + 1 + 1, 0, none⟩ = some (.int .i64 ck) := by rw [hw4]; exact set_two Q.out.c0 Q.out.c1 0 _ rfl
    have u1 : w4.cell? ⟨w.heap.size + 1 + 1, 1, none⟩ = some (.bool true) := by rw [hw4]; exact set_two Q.out.c0 Q.out.c1 1 _ rfl
    have hb0 : Below w.heap.size w w4 := by rw [hw4]; exact (below_set2' hb0 (by omega) _ _).drew
    rw [← hw4]
    clear hw4 Q
    obtain ⟨r0, r1, s0, s1, _⟩ := R.out
    go_wp2
    refine bodyPost_ret (v := .tuple #[.agg (Kd.cells ⟨0, false⟩).toArray, .int .i64 7]) (results_cells2 (cs := Kd.cells ⟨0, false⟩) rfl _ _ (w.heap.size + 1) _ _ rfl rfl (set_two R.out.c0 R.out.c1) Tryz.underlying167 rfl (by kernel_rfl)) rfl ⟨by rw [HN.out]; rfl, below_set2' hb0 (by omega) _ _⟩
set_option maxHeartbeats 4000000 in
set_option maxRecDepth 100000 in
theorem node_17_ftt (kd nu ar : Int) (st nm : ByteArray) (w : World) (A1 : Option Addr) (n1 c1 : Nat) (cols : List Col) (hc : In w A1 n1 c1 cols) (A2 : Option Addr) (n2 c2 : Nat) (zs : List Zone) (hz : In w A2 n2 c2 zs) (b off c : Nat) (xk : Int) (xn : Bool) (yk : Int) (zk : Int) (zn : Bool) (hx : In w (some ⟨b, off, none⟩) 3 c ([⟨xk, xn⟩, ⟨yk, false⟩, ⟨zk, zn⟩] : List Kd)) (hco : (common ⟨yk, false⟩ ⟨zk, zn⟩).2 = true) (hf : fits ⟨xk, xn⟩ 1 = true) :
    Calls Tryz.prog 121 #[.agg #[.int .i64 17, .int .i64 kd, .int .i64 nu, .string st, .string nm, .int .i64 ar], .slice (some ⟨b, off, none⟩) 3 c, .slice A1 n1 c1, .slice A2 n2 c2] w fun e w' => e = .returned (.tuple #[.agg (nodeKd cols zs ⟨17, ⟨kd, nu, st⟩, nm, ar⟩ ([⟨xk, xn⟩, ⟨yk, false⟩, ⟨zk, zn⟩] : List Kd)).2.cells.toArray, .int .i64 (nodeKd cols zs ⟨17, ⟨kd, nu, st⟩, nm, ar⟩ ([⟨xk, xn⟩, ⟨yk, false⟩, ⟨zk, zn⟩] : List Kd)).1]) ∧ Below w.heap.size w w' := by
  obtain ⟨hB, x0, x1⟩ := kd_cells hx (show 0 < 3 by omega) (x := ⟨xk, xn⟩) rfl
  obtain ⟨hB, y0, y1⟩ := kd_cells hx (show 1 < 3 by omega) (x := ⟨yk, false⟩) rfl
  obtain ⟨hB, z0, z1⟩ := kd_cells hx (show 2 < 3 by omega) (x := ⟨zk, zn⟩) rfl
  simp only [Nat.zero_mul, Nat.one_mul, Nat.add_zero, Nat.reduceMul] at x0 x1 y0 y1 z0 z1
  have HN : Hid (nodeKd cols zs ⟨17, ⟨kd, nu, st⟩, nm, ar⟩ ([⟨xk, xn⟩, ⟨yk, false⟩, ⟨zk, zn⟩] : List Kd) = (0, ⟨(common ⟨yk, false⟩ ⟨zk, zn⟩).1, false || zn⟩)) := hide (by rw [nodeKd, if_neg (by simp only; omega), if_neg (by simp only; omega), if_neg (fun h => absurd h.1 (by simp only; omega)), if_neg (show ¬ (opKd (⟨17, ⟨kd, nu, st⟩, nm, ar⟩ : Node) ([⟨xk, xn⟩, ⟨yk, false⟩, ⟨zk, zn⟩] : List Kd)).2 = false from fun h => by have h2 : ((common ⟨yk, false⟩ ⟨zk, zn⟩).2 && fits ⟨xk, xn⟩ 1) = false := h; rw [hco, hf] at h2; cases h2)]; rfl)
  go_enter Tryz.func121, Tryz.ntmps121
  go_upto_region 16 with (fail)
  have R : Hid (Zk (((w.alloc (.cells #[.int .i64 17, .int .i64 kd, .int .i64 nu, .string st, .string nm, .int .i64 ar] 88)).alloc (.cells #[.int .i64 0, .bool false] 167)).alloc (.cells #[.int .i64 0, .bool false] 167)) (w.heap.size + 1)) := hide (by have := (Zk.made (w.alloc (.cells #[.int .i64 17, .int .i64 kd, .int .i64 nu, .string st, .string nm, .int .i64 ar] 88)) 167).below (w' := (((w.alloc (.cells #[.int .i64 17, .int .i64 kd, .int .i64 nu, .string st, .string nm, .int .i64 ar] 88)).alloc (.cells #[.int .i64 0, .bool false] 167)).alloc (.cells #[.int .i64 0, .bool false] 167))) below_alloc; simpa using this)
  have Q : Hid (Zk (((w.alloc (.cells #[.int .i64 17, .int .i64 kd, .int .i64 nu, .string st, .string nm, .int .i64 ar] 88)).alloc (.cells #[.int .i64 0, .bool false] 167)).alloc (.cells #[.int .i64 0, .bool false] 167)) (w.heap.size + 1 + 1)) := hide (by have := Zk.made ((w.alloc (.cells #[.int .i64 17, .int .i64 kd, .int .i64 nu, .string st, .string nm, .int .i64 ar] 88)).alloc (.cells #[.int .i64 0, .bool false] 167)) 167; simpa using this)
  have N0 : (((w.alloc (.cells #[.int .i64 17, .int .i64 kd, .int .i64 nu, .string st, .string nm, .int .i64 ar] 88)).alloc (.cells #[.int .i64 0, .bool false] 167)).alloc (.cells #[.int .i64 0, .bool false] 167)).cell? ⟨w.heap.size, 0, none⟩ = some (.int .i64 17) := by simp [go_sem]
  have N1 : (((w.alloc (.cells #[.int .i64 17, .int .i64 kd, .int .i64 nu, .string st, .string nm, .int .i64 ar] 88)).alloc (.cells #[.int .i64 0, .bool false] 167)).alloc (.cells #[.int .i64 0, .bool false] 167)).cell? ⟨w.heap.size, 1, none⟩ = some (.int .i64 kd) := by simp [go_sem]
  have N4 : (((w.alloc (.cells #[.int .i64 17, .int .i64 kd, .int .i64 nu, .string st, .string nm, .int .i64 ar] 88)).alloc (.cells #[.int .i64 0, .bool false] 167)).alloc (.cells #[.int .i64 0, .bool false] 167)).cell? ⟨w.heap.size, 4, none⟩ = some (.string nm) := by simp [go_sem]
  have hb0 : Below w.heap.size w (((w.alloc (.cells #[.int .i64 17, .int .i64 kd, .int .i64 nu, .string st, .string nm, .int .i64 ar] 88)).alloc (.cells #[.int .i64 0, .bool false] 167)).alloc (.cells #[.int .i64 0, .bool false] 167)) := below_alloc3
  obtain ⟨w0, hw0⟩ : ∃ w0, w0 = (((w.alloc (.cells #[.int .i64 17, .int .i64 kd, .int .i64 nu, .string st, .string nm, .int .i64 ar] 88)).alloc (.cells #[.int .i64 0, .bool false] 167)).alloc (.cells #[.int .i64 0, .bool false] 167)) := ⟨_, rfl⟩
  rw [← hw0] at R Q N0 N1 N4 hb0
  rw [← hw0]
  clear hw0
  have hn0 : w.heap.size < w0.heap.size := Nat.lt_trans (show w.heap.size < w.heap.size + 1 by omega) R.out.lt
  have hnq : ¬ w.heap.size = w.heap.size + 1 + 1 := by omega
  have hrq : w.heap.size + 1 ≠ w.heap.size + 1 + 1 := by omega
  have hB0 : b < w0.heap.size := by have := hb0.size; omega
  have hne : ¬ b = w.heap.size + 1 + 1 := by omega
  have x0 := bat hb0 hB x0
  have x1 := bat hb0 hB x1
  have y0 := bat hb0 hB y0
  have y1 := bat hb0 hB y1
  have z0 := bat hb0 hB z0
  have z1 := bat hb0 hB z1
  go_region_held3 (fun V => V.cell? ⟨b, off, none⟩ = some (.int .i64 xk) ∧ V.cell? ⟨b, off + 1, none⟩ = some (.bool xn) ∧ V.cell? ⟨b, off + 2, none⟩ = some (.int .i64 yk) ∧ V.cell? ⟨b, off + 2 + 1, none⟩ = some (.bool false) ∧ V.cell? ⟨b, off + 4, none⟩ = some (.int .i64 zk) ∧ V.cell? ⟨b, off + 4 + 1, none⟩ = some (.bool zn)) (first | exact ⟨x0, x1, y0, y1, z0, z1⟩ | exact ⟨x0', x1', y0', y1', z0', z1'⟩ | exact ⟨set_far (set_far x0' (.inl hne)) (.inl hne), set_far (set_far x1' (.inl hne)) (.inl hne), set_far (set_far y0' (.inl hne)) (.inl hne), set_far (set_far y1' (.inl hne)) (.inl hne), set_far (set_far z0' (.inl hne)) (.inl hne), set_far (set_far z1' (.inl hne)) (.inl hne)⟩ | exact ⟨set_far (set_far x0 (.inl hne)) (.inl hne), set_far (set_far x1 (.inl hne)) (.inl hne), set_far (set_far y0 (.inl hne)) (.inl hne), set_far (set_far y1 (.inl hne)) (.inl hne), set_far (set_far z0 (.inl hne)) (.inl hne), set_far (set_far z1 (.inl hne)) (.inl hne)⟩) (first | (go_at_call 178; refine (common_ref _ _ _ _ _).mono ?_; rintro e w1 ⟨rfl, hb1⟩; rw [hco]; generalize hck : (common ⟨yk, false⟩ ⟨zk, zn⟩).1 = ck; have HCK := hide hck; clear hck; have hq := below_undrew hb1; have x0' := bat hq hB0 x0; have x1' := bat hq hB0 x1; have y0' := bat hq hB0 y0; have y1' := bat hq hB0 y1; have z0' := bat hq hB0 z0; have z1' := bat hq hB0 z1; have R := hide (R.out.below hq); have Q := hide (Q.out.below hq); have hb0 := below_trans hb0 hq; clear hb1; obtain ⟨q0, q1, p0, p1, _⟩ := Q.out; obtain ⟨r0, r1, s0, s1, _⟩ := R.out))
  have x0 := x0'
  have x1 := x1'
  have y0 := y0'
  have y1 := y1'
  have z0 := z0'
  have z1 := z1'
  clear x0' x1' y0' y1' z0' z1'
  have hB0 := Nat.lt_of_lt_of_le hB0 hq.size
  have hn0 := Nat.lt_of_lt_of_le hn0 hq.size
  clear hq
  go_upto_region 17 with (fail)
  go_region_held3 (fun V => V.cell? ⟨b, off, none⟩ = some (.int .i64 xk) ∧ V.cell? ⟨b, off + 1, none⟩ = some (.bool xn) ∧ V.cell? ⟨b, off + 2 + 1, none⟩ = some (.bool false) ∧ V.cell? ⟨b, off + 4 + 1, none⟩ = some (.bool zn)) (first | exact ⟨x0, x1, y1, z1⟩ | exact ⟨x0', x1', y1', z1'⟩ | exact ⟨set_far (set_far x0' (.inl hne)) (.inl hne), set_far (set_far x1' (.inl hne)) (.inl hne), set_far (set_far y1' (.inl hne)) (.inl hne), set_far (set_far z1' (.inl hne)) (.inl hne)⟩ | exact ⟨set_far (set_far x0 (.inl hne)) (.inl hne), set_far (set_far x1 (.inl hne)) (.inl hne), set_far (set_far y1 (.inl hne)) (.inl hne), set_far (set_far z1 (.inl hne)) (.inl hne)⟩) (first | (go_at_call 179; refine (fits_ref _ _ _ _).mono ?_; rintro e w2 ⟨rfl, hb1⟩; rw [hf]; have hq := below_undrew hb1; have x0' := bat hq hB0 x0; have x1' := bat hq hB0 x1; have y1' := bat hq hB0 y1; have z1' := bat hq hB0 z1; have R := hide (R.out.below hq); have Q := hide (Q.out.below hq); have hb0 := below_trans hb0 hq; clear hb1; obtain ⟨q0, q1, p0, p1, _⟩ := Q.out; obtain ⟨r0, r1, s0, s1, _⟩ := R.out))
  obtain ⟨w4, hw4⟩ : ∃ w4, w4 = (w2.setCell ⟨w.heap.size + 1 + 1, 0, none⟩ (.int .i64 ck)).setCell ⟨w.heap.size + 1 + 1, 1, none⟩ (.bool zn) := ⟨_, rfl⟩
  have R : Hid (Zk w4 (w.heap.size + 1)) := hide (by rw [hw4]; exact R.out.far hrq _ _)
  have u0 : w4.cell? ⟨w.heap.size + 1 + 1, 0, none⟩ = some (.int .i64 ck) := by rw [hw4]; exact set_two Q.out.c0 Q.out.c1 0 _ rfl
  have u1 : w4.cell? ⟨w.heap.size + 1 + 1, 1, none⟩ = some (.bool zn) := by rw [hw4]; exact set_two Q.out.c0 Q.out.c1 1 _ rfl
  have hb0 : Below w.heap.size w w4 := by rw [hw4]; exact below_set2' hb0 (by omega) _ _
  rw [← hw4]
  clear hw4 Q
  obtain ⟨r0, r1, s0, s1, _⟩ := R.out
  go_wp2
  refine bodyPost_ret (v := .tuple #[.agg (Kd.cells ⟨ck, zn⟩).toArray, .int .i64 0]) (results_cells2 (cs := Kd.cells ⟨ck, zn⟩) rfl _ _ (w.heap.size + 1) _ _ rfl rfl (set_two R.out.c0 R.out.c1) Tryz.underlying167 rfl (by kernel_rfl)) rfl ⟨by rw [HN.out, HCK.out]; rfl, below_set2' hb0 (by omega) _ _⟩
set_option maxHeartbeats 4000000 in
set_option maxRecDepth 100000 in
theorem node_17_ftf (kd nu ar : Int) (st nm : ByteArray) (w : World) (A1 : Option Addr) (n1 c1 : Nat) (cols : List Col) (hc : In w A1 n1 c1 cols) (A2 : Option Addr) (n2 c2 : Nat) (zs : List Zone) (hz : In w A2 n2 c2 zs) (b off c : Nat) (xk : Int) (xn : Bool) (yk : Int) (zk : Int) (zn : Bool) (hx : In w (some ⟨b, off, none⟩) 3 c ([⟨xk, xn⟩, ⟨yk, false⟩, ⟨zk, zn⟩] : List Kd)) (hco : (common ⟨yk, false⟩ ⟨zk, zn⟩).2 = true) (hf : fits ⟨xk, xn⟩ 1 = false) :
    Calls Tryz.prog 121 #[.agg #[.int .i64 17, .int .i64 kd, .int .i64 nu, .string st, .string nm, .int .i64 ar], .slice (some ⟨b, off, none⟩) 3 c, .slice A1 n1 c1, .slice A2 n2 c2] w fun e w' => e = .returned (.tuple #[.agg (nodeKd cols zs ⟨17, ⟨kd, nu, st⟩, nm, ar⟩ ([⟨xk, xn⟩, ⟨yk, false⟩, ⟨zk, zn⟩] : List Kd)).2.cells.toArray, .int .i64 (nodeKd cols zs ⟨17, ⟨kd, nu, st⟩, nm, ar⟩ ([⟨xk, xn⟩, ⟨yk, false⟩, ⟨zk, zn⟩] : List Kd)).1]) ∧ Below w.heap.size w w' := by
  obtain ⟨hB, x0, x1⟩ := kd_cells hx (show 0 < 3 by omega) (x := ⟨xk, xn⟩) rfl
  obtain ⟨hB, y0, y1⟩ := kd_cells hx (show 1 < 3 by omega) (x := ⟨yk, false⟩) rfl
  obtain ⟨hB, z0, z1⟩ := kd_cells hx (show 2 < 3 by omega) (x := ⟨zk, zn⟩) rfl
  simp only [Nat.zero_mul, Nat.one_mul, Nat.add_zero, Nat.reduceMul] at x0 x1 y0 y1 z0 z1
  have HN : Hid (nodeKd cols zs ⟨17, ⟨kd, nu, st⟩, nm, ar⟩ ([⟨xk, xn⟩, ⟨yk, false⟩, ⟨zk, zn⟩] : List Kd) = (7, default)) := hide (by rw [nodeKd, if_neg (by simp only; omega), if_neg (by simp only; omega), if_neg (fun h => absurd h.1 (by simp only; omega)), if_pos (show (opKd (⟨17, ⟨kd, nu, st⟩, nm, ar⟩ : Node) ([⟨xk, xn⟩, ⟨yk, false⟩, ⟨zk, zn⟩] : List Kd)).2 = false from by show ((common ⟨yk, false⟩ ⟨zk, zn⟩).2 && fits ⟨xk, xn⟩ 1) = false; rw [hco, hf]; rfl)])
  go_enter Tryz.func121, Tryz.ntmps121
  go_upto_region 16 with (fail)
  have R : Hid (Zk (((w.alloc (.cells #[.int .i64 17, .int .i64 kd, .int .i64 nu, .string st, .string nm, .int .i64 ar] 88)).alloc (.cells #[.int .i64 0, .bool false] 167)).alloc (.cells #[.int .i64 0, .bool false] 167)) (w.heap.size + 1)) := hide (by have := (Zk.made (w.alloc (.cells #[.int .i64 17, .int .i64 kd, .int .i64 nu, .string st, .string nm, .int .i64 ar] 88)) 167).below (w' := (((w.alloc (.cells #[.int .i64 17, .int .i64 kd, .int .i64 nu, .string st, .string nm, .int .i64 ar] 88)).alloc (.cells #[.int .i64 0, .bool false] 167)).alloc (.cells #[.int .i64 0, .bool false] 167))) below_alloc; simpa using this)
  have Q : Hid (Zk (((w.alloc (.cells #[.int .i64 17, .int .i64 kd, .int .i64 nu, .string st, .string nm, .int .i64 ar] 88)).alloc (.cells #[.int .i64 0, .bool false] 167)).alloc (.cells #[.int .i64 0, .bool false] 167)) (w.heap.size + 1 + 1)) := hide (by have := Zk.made ((w.alloc (.cells #[.int .i64 17, .int .i64 kd, .int .i64 nu, .string st, .string nm, .int .i64 ar] 88)).alloc (.cells #[.int .i64 0, .bool false] 167)) 167; simpa using this)
  have N0 : (((w.alloc (.cells #[.int .i64 17, .int .i64 kd, .int .i64 nu, .string st, .string nm, .int .i64 ar] 88)).alloc (.cells #[.int .i64 0, .bool false] 167)).alloc (.cells #[.int .i64 0, .bool false] 167)).cell? ⟨w.heap.size, 0, none⟩ = some (.int .i64 17) := by simp [go_sem]
  have N1 : (((w.alloc (.cells #[.int .i64 17, .int .i64 kd, .int .i64 nu, .string st, .string nm, .int .i64 ar] 88)).alloc (.cells #[.int .i64 0, .bool false] 167)).alloc (.cells #[.int .i64 0, .bool false] 167)).cell? ⟨w.heap.size, 1, none⟩ = some (.int .i64 kd) := by simp [go_sem]
  have N4 : (((w.alloc (.cells #[.int .i64 17, .int .i64 kd, .int .i64 nu, .string st, .string nm, .int .i64 ar] 88)).alloc (.cells #[.int .i64 0, .bool false] 167)).alloc (.cells #[.int .i64 0, .bool false] 167)).cell? ⟨w.heap.size, 4, none⟩ = some (.string nm) := by simp [go_sem]
  have hb0 : Below w.heap.size w (((w.alloc (.cells #[.int .i64 17, .int .i64 kd, .int .i64 nu, .string st, .string nm, .int .i64 ar] 88)).alloc (.cells #[.int .i64 0, .bool false] 167)).alloc (.cells #[.int .i64 0, .bool false] 167)) := below_alloc3
  obtain ⟨w0, hw0⟩ : ∃ w0, w0 = (((w.alloc (.cells #[.int .i64 17, .int .i64 kd, .int .i64 nu, .string st, .string nm, .int .i64 ar] 88)).alloc (.cells #[.int .i64 0, .bool false] 167)).alloc (.cells #[.int .i64 0, .bool false] 167)) := ⟨_, rfl⟩
  rw [← hw0] at R Q N0 N1 N4 hb0
  rw [← hw0]
  clear hw0
  have hn0 : w.heap.size < w0.heap.size := Nat.lt_trans (show w.heap.size < w.heap.size + 1 by omega) R.out.lt
  have hnq : ¬ w.heap.size = w.heap.size + 1 + 1 := by omega
  have hrq : w.heap.size + 1 ≠ w.heap.size + 1 + 1 := by omega
  have hB0 : b < w0.heap.size := by have := hb0.size; omega
  have hne : ¬ b = w.heap.size + 1 + 1 := by omega
  have x0 := bat hb0 hB x0
  have x1 := bat hb0 hB x1
  have y0 := bat hb0 hB y0
  have y1 := bat hb0 hB y1
  have z0 := bat hb0 hB z0
  have z1 := bat hb0 hB z1
  go_region_held3 (fun V => V.cell? ⟨b, off, none⟩ = some (.int .i64 xk) ∧ V.cell? ⟨b, off + 1, none⟩ = some (.bool xn) ∧ V.cell? ⟨b, off + 2, none⟩ = some (.int .i64 yk) ∧ V.cell? ⟨b, off + 2 + 1, none⟩ = some (.bool false) ∧ V.cell? ⟨b, off + 4, none⟩ = some (.int .i64 zk) ∧ V.cell? ⟨b, off + 4 + 1, none⟩ = some (.bool zn)) (first | exact ⟨x0, x1, y0, y1, z0, z1⟩ | exact ⟨x0', x1', y0', y1', z0', z1'⟩ | exact ⟨set_far (set_far x0' (.inl hne)) (.inl hne), set_far (set_far x1' (.inl hne)) (.inl hne), set_far (set_far y0' (.inl hne)) (.inl hne), set_far (set_far y1' (.inl hne)) (.inl hne), set_far (set_far z0' (.inl hne)) (.inl hne), set_far (set_far z1' (.inl hne)) (.inl hne)⟩ | exact ⟨set_far (set_far x0 (.inl hne)) (.inl hne), set_far (set_far x1 (.inl hne)) (.inl hne), set_far (set_far y0 (.inl hne)) (.inl hne), set_far (set_far y1 (.inl hne)) (.inl hne), set_far (set_far z0 (.inl hne)) (.inl hne), set_far (set_far z1 (.inl hne)) (.inl hne)⟩) (first | (go_at_call 178; refine (common_ref _ _ _ _ _).mono ?_; rintro e w1 ⟨rfl, hb1⟩; rw [hco]; generalize hck : (common ⟨yk, false⟩ ⟨zk, zn⟩).1 = ck; have HCK := hide hck; clear hck; have hq := below_undrew hb1; have x0' := bat hq hB0 x0; have x1' := bat hq hB0 x1; have y0' := bat hq hB0 y0; have y1' := bat hq hB0 y1; have z0' := bat hq hB0 z0; have z1' := bat hq hB0 z1; have R := hide (R.out.below hq); have Q := hide (Q.out.below hq); have hb0 := below_trans hb0 hq; clear hb1; obtain ⟨q0, q1, p0, p1, _⟩ := Q.out; obtain ⟨r0, r1, s0, s1, _⟩ := R.out))
  have x0 := x0'
  have x1 := x1'
  have y0 := y0'
  have y1 := y1'
  have z0 := z0'
  have z1 := z1'
  clear x0' x1' y0' y1' z0' z1'
  have hB0 := Nat.lt_of_lt_of_le hB0 hq.size
  have hn0 := Nat.lt_of_lt_of_le hn0 hq.size
  clear hq
  go_upto_region 17 with (fail)
  go_region_held3 (fun V => V.cell? ⟨b, off, none⟩ = some (.int .i64 xk) ∧ V.cell? ⟨b, off + 1, none⟩ = some (.bool xn) ∧ V.cell? ⟨b, off + 2 + 1, none⟩ = some (.bool false) ∧ V.cell? ⟨b, off + 4 + 1, none⟩ = some (.bool zn)) (first | exact ⟨x0, x1, y1, z1⟩ | exact ⟨x0', x1', y1', z1'⟩ | exact ⟨set_far (set_far x0' (.inl hne)) (.inl hne), set_far (set_far x1' (.inl hne)) (.inl hne), set_far (set_far y1' (.inl hne)) (.inl hne), set_far (set_far z1' (.inl hne)) (.inl hne)⟩ | exact ⟨set_far (set_far x0 (.inl hne)) (.inl hne), set_far (set_far x1 (.inl hne)) (.inl hne), set_far (set_far y1 (.inl hne)) (.inl hne), set_far (set_far z1 (.inl hne)) (.inl hne)⟩) (first | (go_at_call 179; refine (fits_ref _ _ _ _).mono ?_; rintro e w2 ⟨rfl, hb1⟩; rw [hf]; have hq := below_undrew hb1; have x0' := bat hq hB0 x0; have x1' := bat hq hB0 x1; have y1' := bat hq hB0 y1; have z1' := bat hq hB0 z1; have R := hide (R.out.below hq); have Q := hide (Q.out.below hq); have hb0 := below_trans hb0 hq; clear hb1; obtain ⟨q0, q1, p0, p1, _⟩ := Q.out; obtain ⟨r0, r1, s0, s1, _⟩ := R.out))
  obtain ⟨w4, hw4⟩ : ∃ w4, w4 = (w2.setCell ⟨w.heap.size + 1 + 1, 0, none⟩ (.int .i64 ck)).setCell ⟨w.heap.size + 1 + 1, 1, none⟩ (.bool zn) := ⟨_, rfl⟩
  have R : Hid (Zk w4 (w.heap.size + 1)) := hide (by rw [hw4]; exact R.out.far hrq _ _)
  have u0 : w4.cell? ⟨w.heap.size + 1 + 1, 0, none⟩ = some (.int .i64 ck) := by rw [hw4]; exact set_two Q.out.c0 Q.out.c1 0 _ rfl
  have u1 : w4.cell? ⟨w.heap.size + 1 + 1, 1, none⟩ = some (.bool zn) := by rw [hw4]; exact set_two Q.out.c0 Q.out.c1 1 _ rfl
  have hb0 : Below w.heap.size w w4 := by rw [hw4]; exact below_set2' hb0 (by omega) _ _
  rw [← hw4]
  clear hw4 Q
  obtain ⟨r0, r1, s0, s1, _⟩ := R.out
  go_wp2
  refine bodyPost_ret (v := .tuple #[.agg (Kd.cells ⟨0, false⟩).toArray, .int .i64 7]) (results_cells2 (cs := Kd.cells ⟨0, false⟩) rfl _ _ (w.heap.size + 1) _ _ rfl rfl (set_two R.out.c0 R.out.c1) Tryz.underlying167 rfl (by kernel_rfl)) rfl ⟨by rw [HN.out]; rfl, below_set2' hb0 (by omega) _ _⟩
set_option maxHeartbeats 4000000 in
set_option maxRecDepth 100000 in
theorem node_17_ttt (kd nu ar : Int) (st nm : ByteArray) (w : World) (A1 : Option Addr) (n1 c1 : Nat) (cols : List Col) (hc : In w A1 n1 c1 cols) (A2 : Option Addr) (n2 c2 : Nat) (zs : List Zone) (hz : In w A2 n2 c2 zs) (b off c : Nat) (xk : Int) (xn : Bool) (yk : Int) (zk : Int) (zn : Bool) (hx : In w (some ⟨b, off, none⟩) 3 c ([⟨xk, xn⟩, ⟨yk, true⟩, ⟨zk, zn⟩] : List Kd)) (hco : (common ⟨yk, true⟩ ⟨zk, zn⟩).2 = true) (hf : fits ⟨xk, xn⟩ 1 = true) :
    Calls Tryz.prog 121 #[.agg #[.int .i64 17, .int .i64 kd, .int .i64 nu, .string st, .string nm, .int .i64 ar], .slice (some ⟨b, off, none⟩) 3 c, .slice A1 n1 c1, .slice A2 n2 c2] w fun e w' => e = .returned (.tuple #[.agg (nodeKd cols zs ⟨17, ⟨kd, nu, st⟩, nm, ar⟩ ([⟨xk, xn⟩, ⟨yk, true⟩, ⟨zk, zn⟩] : List Kd)).2.cells.toArray, .int .i64 (nodeKd cols zs ⟨17, ⟨kd, nu, st⟩, nm, ar⟩ ([⟨xk, xn⟩, ⟨yk, true⟩, ⟨zk, zn⟩] : List Kd)).1]) ∧ Below w.heap.size w w' := by
  obtain ⟨hB, x0, x1⟩ := kd_cells hx (show 0 < 3 by omega) (x := ⟨xk, xn⟩) rfl
  obtain ⟨hB, y0, y1⟩ := kd_cells hx (show 1 < 3 by omega) (x := ⟨yk, true⟩) rfl
  obtain ⟨hB, z0, z1⟩ := kd_cells hx (show 2 < 3 by omega) (x := ⟨zk, zn⟩) rfl
  simp only [Nat.zero_mul, Nat.one_mul, Nat.add_zero, Nat.reduceMul] at x0 x1 y0 y1 z0 z1
  have HN : Hid (nodeKd cols zs ⟨17, ⟨kd, nu, st⟩, nm, ar⟩ ([⟨xk, xn⟩, ⟨yk, true⟩, ⟨zk, zn⟩] : List Kd) = (0, ⟨(common ⟨yk, true⟩ ⟨zk, zn⟩).1, true || zn⟩)) := hide (by rw [nodeKd, if_neg (by simp only; omega), if_neg (by simp only; omega), if_neg (fun h => absurd h.1 (by simp only; omega)), if_neg (show ¬ (opKd (⟨17, ⟨kd, nu, st⟩, nm, ar⟩ : Node) ([⟨xk, xn⟩, ⟨yk, true⟩, ⟨zk, zn⟩] : List Kd)).2 = false from fun h => by have h2 : ((common ⟨yk, true⟩ ⟨zk, zn⟩).2 && fits ⟨xk, xn⟩ 1) = false := h; rw [hco, hf] at h2; cases h2)]; rfl)
  go_enter Tryz.func121, Tryz.ntmps121
  go_upto_region 16 with (fail)
  have R : Hid (Zk (((w.alloc (.cells #[.int .i64 17, .int .i64 kd, .int .i64 nu, .string st, .string nm, .int .i64 ar] 88)).alloc (.cells #[.int .i64 0, .bool false] 167)).alloc (.cells #[.int .i64 0, .bool false] 167)) (w.heap.size + 1)) := hide (by have := (Zk.made (w.alloc (.cells #[.int .i64 17, .int .i64 kd, .int .i64 nu, .string st, .string nm, .int .i64 ar] 88)) 167).below (w' := (((w.alloc (.cells #[.int .i64 17, .int .i64 kd, .int .i64 nu, .string st, .string nm, .int .i64 ar] 88)).alloc (.cells #[.int .i64 0, .bool false] 167)).alloc (.cells #[.int .i64 0, .bool false] 167))) below_alloc; simpa using this)
  have Q : Hid (Zk (((w.alloc (.cells #[.int .i64 17, .int .i64 kd, .int .i64 nu, .string st, .string nm, .int .i64 ar] 88)).alloc (.cells #[.int .i64 0, .bool false] 167)).alloc (.cells #[.int .i64 0, .bool false] 167)) (w.heap.size + 1 + 1)) := hide (by have := Zk.made ((w.alloc (.cells #[.int .i64 17, .int .i64 kd, .int .i64 nu, .string st, .string nm, .int .i64 ar] 88)).alloc (.cells #[.int .i64 0, .bool false] 167)) 167; simpa using this)
  have N0 : (((w.alloc (.cells #[.int .i64 17, .int .i64 kd, .int .i64 nu, .string st, .string nm, .int .i64 ar] 88)).alloc (.cells #[.int .i64 0, .bool false] 167)).alloc (.cells #[.int .i64 0, .bool false] 167)).cell? ⟨w.heap.size, 0, none⟩ = some (.int .i64 17) := by simp [go_sem]
  have N1 : (((w.alloc (.cells #[.int .i64 17, .int .i64 kd, .int .i64 nu, .string st, .string nm, .int .i64 ar] 88)).alloc (.cells #[.int .i64 0, .bool false] 167)).alloc (.cells #[.int .i64 0, .bool false] 167)).cell? ⟨w.heap.size, 1, none⟩ = some (.int .i64 kd) := by simp [go_sem]
  have N4 : (((w.alloc (.cells #[.int .i64 17, .int .i64 kd, .int .i64 nu, .string st, .string nm, .int .i64 ar] 88)).alloc (.cells #[.int .i64 0, .bool false] 167)).alloc (.cells #[.int .i64 0, .bool false] 167)).cell? ⟨w.heap.size, 4, none⟩ = some (.string nm) := by simp [go_sem]
  have hb0 : Below w.heap.size w (((w.alloc (.cells #[.int .i64 17, .int .i64 kd, .int .i64 nu, .string st, .string nm, .int .i64 ar] 88)).alloc (.cells #[.int .i64 0, .bool false] 167)).alloc (.cells #[.int .i64 0, .bool false] 167)) := below_alloc3
  obtain ⟨w0, hw0⟩ : ∃ w0, w0 = (((w.alloc (.cells #[.int .i64 17, .int .i64 kd, .int .i64 nu, .string st, .string nm, .int .i64 ar] 88)).alloc (.cells #[.int .i64 0, .bool false] 167)).alloc (.cells #[.int .i64 0, .bool false] 167)) := ⟨_, rfl⟩
  rw [← hw0] at R Q N0 N1 N4 hb0
  rw [← hw0]
  clear hw0
  have hn0 : w.heap.size < w0.heap.size := Nat.lt_trans (show w.heap.size < w.heap.size + 1 by omega) R.out.lt
  have hnq : ¬ w.heap.size = w.heap.size + 1 + 1 := by omega
  have hrq : w.heap.size + 1 ≠ w.heap.size + 1 + 1 := by omega
  have hB0 : b < w0.heap.size := by have := hb0.size; omega
  have hne : ¬ b = w.heap.size + 1 + 1 := by omega
  have x0 := bat hb0 hB x0
  have x1 := bat hb0 hB x1
  have y0 := bat hb0 hB y0
  have y1 := bat hb0 hB y1
  have z0 := bat hb0 hB z0
  have z1 := bat hb0 hB z1
  go_region_held3 (fun V => V.cell? ⟨b, off, none⟩ = some (.int .i64 xk) ∧ V.cell? ⟨b, off + 1, none⟩ = some (.bool xn) ∧ V.cell? ⟨b, off + 2, none⟩ = some (.int .i64 yk) ∧ V.cell? ⟨b, off + 2 + 1, none⟩ = some (.bool true) ∧ V.cell? ⟨b, off + 4, none⟩ = some (.int .i64 zk) ∧ V.cell? ⟨b, off + 4 + 1, none⟩ = some (.bool zn)) (first | exact ⟨x0, x1, y0, y1, z0, z1⟩ | exact ⟨x0', x1', y0', y1', z0', z1'⟩ | exact ⟨set_far (set_far x0' (.inl hne)) (.inl hne), set_far (set_far x1' (.inl hne)) (.inl hne), set_far (set_far y0' (.inl hne)) (.inl hne), set_far (set_far y1' (.inl hne)) (.inl hne), set_far (set_far z0' (.inl hne)) (.inl hne), set_far (set_far z1' (.inl hne)) (.inl hne)⟩ | exact ⟨set_far (set_far x0 (.inl hne)) (.inl hne), set_far (set_far x1 (.inl hne)) (.inl hne), set_far (set_far y0 (.inl hne)) (.inl hne), set_far (set_far y1 (.inl hne)) (.inl hne), set_far (set_far z0 (.inl hne)) (.inl hne), set_far (set_far z1 (.inl hne)) (.inl hne)⟩) (first | (go_at_call 178; refine (common_ref _ _ _ _ _).mono ?_; rintro e w1 ⟨rfl, hb1⟩; rw [hco]; generalize hck : (common ⟨yk, true⟩ ⟨zk, zn⟩).1 = ck; have HCK := hide hck; clear hck; have hq := below_undrew hb1; have x0' := bat hq hB0 x0; have x1' := bat hq hB0 x1; have y0' := bat hq hB0 y0; have y1' := bat hq hB0 y1; have z0' := bat hq hB0 z0; have z1' := bat hq hB0 z1; have R := hide (R.out.below hq); have Q := hide (Q.out.below hq); have hb0 := below_trans hb0 hq; clear hb1; obtain ⟨q0, q1, p0, p1, _⟩ := Q.out; obtain ⟨r0, r1, s0, s1, _⟩ := R.out))
  have x0 := x0'
  have x1 := x1'
  have y0 := y0'
  have y1 := y1'
  have z0 := z0'
  have z1 := z1'
  clear x0' x1' y0' y1' z0' z1'
  have hB0 := Nat.lt_of_lt_of_le hB0 hq.size
  have hn0 := Nat.lt_of_lt_of_le hn0 hq.size
  clear hq
  go_upto_region 17 with (fail)
  first | (go_region_with (first | (go_at_call 179; refine (fits_ref _ _ _ _).mono ?_; rintro e w2 ⟨rfl, hb1⟩; rw [hf]; have hq := below_undrew hb1; have x0' := bat hq hB0 x0; have x1' := bat hq hB0 x1; have y1' := bat hq hB0 y1; have z1' := bat hq hB0 z1; have R := hide (R.out.below hq); have Q := hide (Q.out.below hq); have hb0 := below_trans hb0 hq; clear hb1; obtain ⟨q0, q1, p0, p1, _⟩ := Q.out; obtain ⟨r0, r1, s0, s1, _⟩ := R.out))) | fail
  all_goals
    obtain ⟨w4, hw4⟩ : ∃ w4, w4 = (w2.setCell ⟨w.heap.size + 1 + 1, 0, none⟩ (.int .i64 ck)).setCell ⟨w.heap.size + 1 + 1, 1, none⟩ (.bool true) := ⟨_, rfl⟩
    have R : Hid (Zk w4 (w.heap.size + 1)) := hide (by rw [hw4]; exact R.out.far hrq _ _)
    have u0 : w4.cell? ⟨w.heap.size + 1 + 1, 0, none⟩ = some (.int .i64 ck) := by rw [hw4]; exact set_two Q.out.c0 Q.out.c1 0 _ rfl
    have u1 : w4.cell? ⟨w.heap.size + 1 + 1, 1, none⟩ = some (.bool true) := by rw [hw4]; exact set_two Q.out.c0 Q.out.c1 1 _ rfl
    have hb0 : Below w.heap.size w w4 := by rw [hw4]; exact below_set2' hb0 (by omega) _ _
    rw [← hw4]
    clear hw4 Q
    obtain ⟨r0, r1, s0, s1, _⟩ := R.out
    go_wp2
    refine bodyPost_ret (v := .tuple #[.agg (Kd.cells ⟨ck, true⟩).toArray, .int .i64 0]) (results_cells2 (cs := Kd.cells ⟨ck, true⟩) rfl _ _ (w.heap.size + 1) _ _ rfl rfl (set_two R.out.c0 R.out.c1) Tryz.underlying167 rfl (by kernel_rfl)) rfl ⟨by rw [HN.out, HCK.out]; rfl, below_set2' hb0 (by omega) _ _⟩
set_option maxHeartbeats 4000000 in
set_option maxRecDepth 100000 in
theorem node_17_ttf (kd nu ar : Int) (st nm : ByteArray) (w : World) (A1 : Option Addr) (n1 c1 : Nat) (cols : List Col) (hc : In w A1 n1 c1 cols) (A2 : Option Addr) (n2 c2 : Nat) (zs : List Zone) (hz : In w A2 n2 c2 zs) (b off c : Nat) (xk : Int) (xn : Bool) (yk : Int) (zk : Int) (zn : Bool) (hx : In w (some ⟨b, off, none⟩) 3 c ([⟨xk, xn⟩, ⟨yk, true⟩, ⟨zk, zn⟩] : List Kd)) (hco : (common ⟨yk, true⟩ ⟨zk, zn⟩).2 = true) (hf : fits ⟨xk, xn⟩ 1 = false) :
    Calls Tryz.prog 121 #[.agg #[.int .i64 17, .int .i64 kd, .int .i64 nu, .string st, .string nm, .int .i64 ar], .slice (some ⟨b, off, none⟩) 3 c, .slice A1 n1 c1, .slice A2 n2 c2] w fun e w' => e = .returned (.tuple #[.agg (nodeKd cols zs ⟨17, ⟨kd, nu, st⟩, nm, ar⟩ ([⟨xk, xn⟩, ⟨yk, true⟩, ⟨zk, zn⟩] : List Kd)).2.cells.toArray, .int .i64 (nodeKd cols zs ⟨17, ⟨kd, nu, st⟩, nm, ar⟩ ([⟨xk, xn⟩, ⟨yk, true⟩, ⟨zk, zn⟩] : List Kd)).1]) ∧ Below w.heap.size w w' := by
  obtain ⟨hB, x0, x1⟩ := kd_cells hx (show 0 < 3 by omega) (x := ⟨xk, xn⟩) rfl
  obtain ⟨hB, y0, y1⟩ := kd_cells hx (show 1 < 3 by omega) (x := ⟨yk, true⟩) rfl
  obtain ⟨hB, z0, z1⟩ := kd_cells hx (show 2 < 3 by omega) (x := ⟨zk, zn⟩) rfl
  simp only [Nat.zero_mul, Nat.one_mul, Nat.add_zero, Nat.reduceMul] at x0 x1 y0 y1 z0 z1
  have HN : Hid (nodeKd cols zs ⟨17, ⟨kd, nu, st⟩, nm, ar⟩ ([⟨xk, xn⟩, ⟨yk, true⟩, ⟨zk, zn⟩] : List Kd) = (7, default)) := hide (by rw [nodeKd, if_neg (by simp only; omega), if_neg (by simp only; omega), if_neg (fun h => absurd h.1 (by simp only; omega)), if_pos (show (opKd (⟨17, ⟨kd, nu, st⟩, nm, ar⟩ : Node) ([⟨xk, xn⟩, ⟨yk, true⟩, ⟨zk, zn⟩] : List Kd)).2 = false from by show ((common ⟨yk, true⟩ ⟨zk, zn⟩).2 && fits ⟨xk, xn⟩ 1) = false; rw [hco, hf]; rfl)])
  go_enter Tryz.func121, Tryz.ntmps121
  go_upto_region 16 with (fail)
  have R : Hid (Zk (((w.alloc (.cells #[.int .i64 17, .int .i64 kd, .int .i64 nu, .string st, .string nm, .int .i64 ar] 88)).alloc (.cells #[.int .i64 0, .bool false] 167)).alloc (.cells #[.int .i64 0, .bool false] 167)) (w.heap.size + 1)) := hide (by have := (Zk.made (w.alloc (.cells #[.int .i64 17, .int .i64 kd, .int .i64 nu, .string st, .string nm, .int .i64 ar] 88)) 167).below (w' := (((w.alloc (.cells #[.int .i64 17, .int .i64 kd, .int .i64 nu, .string st, .string nm, .int .i64 ar] 88)).alloc (.cells #[.int .i64 0, .bool false] 167)).alloc (.cells #[.int .i64 0, .bool false] 167))) below_alloc; simpa using this)
  have Q : Hid (Zk (((w.alloc (.cells #[.int .i64 17, .int .i64 kd, .int .i64 nu, .string st, .string nm, .int .i64 ar] 88)).alloc (.cells #[.int .i64 0, .bool false] 167)).alloc (.cells #[.int .i64 0, .bool false] 167)) (w.heap.size + 1 + 1)) := hide (by have := Zk.made ((w.alloc (.cells #[.int .i64 17, .int .i64 kd, .int .i64 nu, .string st, .string nm, .int .i64 ar] 88)).alloc (.cells #[.int .i64 0, .bool false] 167)) 167; simpa using this)
  have N0 : (((w.alloc (.cells #[.int .i64 17, .int .i64 kd, .int .i64 nu, .string st, .string nm, .int .i64 ar] 88)).alloc (.cells #[.int .i64 0, .bool false] 167)).alloc (.cells #[.int .i64 0, .bool false] 167)).cell? ⟨w.heap.size, 0, none⟩ = some (.int .i64 17) := by simp [go_sem]
  have N1 : (((w.alloc (.cells #[.int .i64 17, .int .i64 kd, .int .i64 nu, .string st, .string nm, .int .i64 ar] 88)).alloc (.cells #[.int .i64 0, .bool false] 167)).alloc (.cells #[.int .i64 0, .bool false] 167)).cell? ⟨w.heap.size, 1, none⟩ = some (.int .i64 kd) := by simp [go_sem]
  have N4 : (((w.alloc (.cells #[.int .i64 17, .int .i64 kd, .int .i64 nu, .string st, .string nm, .int .i64 ar] 88)).alloc (.cells #[.int .i64 0, .bool false] 167)).alloc (.cells #[.int .i64 0, .bool false] 167)).cell? ⟨w.heap.size, 4, none⟩ = some (.string nm) := by simp [go_sem]
  have hb0 : Below w.heap.size w (((w.alloc (.cells #[.int .i64 17, .int .i64 kd, .int .i64 nu, .string st, .string nm, .int .i64 ar] 88)).alloc (.cells #[.int .i64 0, .bool false] 167)).alloc (.cells #[.int .i64 0, .bool false] 167)) := below_alloc3
  obtain ⟨w0, hw0⟩ : ∃ w0, w0 = (((w.alloc (.cells #[.int .i64 17, .int .i64 kd, .int .i64 nu, .string st, .string nm, .int .i64 ar] 88)).alloc (.cells #[.int .i64 0, .bool false] 167)).alloc (.cells #[.int .i64 0, .bool false] 167)) := ⟨_, rfl⟩
  rw [← hw0] at R Q N0 N1 N4 hb0
  rw [← hw0]
  clear hw0
  have hn0 : w.heap.size < w0.heap.size := Nat.lt_trans (show w.heap.size < w.heap.size + 1 by omega) R.out.lt
  have hnq : ¬ w.heap.size = w.heap.size + 1 + 1 := by omega
  have hrq : w.heap.size + 1 ≠ w.heap.size + 1 + 1 := by omega
  have hB0 : b < w0.heap.size := by have := hb0.size; omega
  have hne : ¬ b = w.heap.size + 1 + 1 := by omega
  have x0 := bat hb0 hB x0
  have x1 := bat hb0 hB x1
  have y0 := bat hb0 hB y0
  have y1 := bat hb0 hB y1
  have z0 := bat hb0 hB z0
  have z1 := bat hb0 hB z1
  go_region_held3 (fun V => V.cell? ⟨b, off, none⟩ = some (.int .i64 xk) ∧ V.cell? ⟨b, off + 1, none⟩ = some (.bool xn) ∧ V.cell? ⟨b, off + 2, none⟩ = some (.int .i64 yk) ∧ V.cell? ⟨b, off + 2 + 1, none⟩ = some (.bool true) ∧ V.cell? ⟨b, off + 4, none⟩ = some (.int .i64 zk) ∧ V.cell? ⟨b, off + 4 + 1, none⟩ = some (.bool zn)) (first | exact ⟨x0, x1, y0, y1, z0, z1⟩ | exact ⟨x0', x1', y0', y1', z0', z1'⟩ | exact ⟨set_far (set_far x0' (.inl hne)) (.inl hne), set_far (set_far x1' (.inl hne)) (.inl hne), set_far (set_far y0' (.inl hne)) (.inl hne), set_far (set_far y1' (.inl hne)) (.inl hne), set_far (set_far z0' (.inl hne)) (.inl hne), set_far (set_far z1' (.inl hne)) (.inl hne)⟩ | exact ⟨set_far (set_far x0 (.inl hne)) (.inl hne), set_far (set_far x1 (.inl hne)) (.inl hne), set_far (set_far y0 (.inl hne)) (.inl hne), set_far (set_far y1 (.inl hne)) (.inl hne), set_far (set_far z0 (.inl hne)) (.inl hne), set_far (set_far z1 (.inl hne)) (.inl hne)⟩) (first | (go_at_call 178; refine (common_ref _ _ _ _ _).mono ?_; rintro e w1 ⟨rfl, hb1⟩; rw [hco]; generalize hck : (common ⟨yk, true⟩ ⟨zk, zn⟩).1 = ck; have HCK := hide hck; clear hck; have hq := below_undrew hb1; have x0' := bat hq hB0 x0; have x1' := bat hq hB0 x1; have y0' := bat hq hB0 y0; have y1' := bat hq hB0 y1; have z0' := bat hq hB0 z0; have z1' := bat hq hB0 z1; have R := hide (R.out.below hq); have Q := hide (Q.out.below hq); have hb0 := below_trans hb0 hq; clear hb1; obtain ⟨q0, q1, p0, p1, _⟩ := Q.out; obtain ⟨r0, r1, s0, s1, _⟩ := R.out))
  have x0 := x0'
  have x1 := x1'
  have y0 := y0'
  have y1 := y1'
  have z0 := z0'
  have z1 := z1'
  clear x0' x1' y0' y1' z0' z1'
  have hB0 := Nat.lt_of_lt_of_le hB0 hq.size
  have hn0 := Nat.lt_of_lt_of_le hn0 hq.size
  clear hq
  go_upto_region 17 with (fail)
  first | (go_region_with (first | (go_at_call 179; refine (fits_ref _ _ _ _).mono ?_; rintro e w2 ⟨rfl, hb1⟩; rw [hf]; have hq := below_undrew hb1; have x0' := bat hq hB0 x0; have x1' := bat hq hB0 x1; have y1' := bat hq hB0 y1; have z1' := bat hq hB0 z1; have R := hide (R.out.below hq); have Q := hide (Q.out.below hq); have hb0 := below_trans hb0 hq; clear hb1; obtain ⟨q0, q1, p0, p1, _⟩ := Q.out; obtain ⟨r0, r1, s0, s1, _⟩ := R.out))) | fail
  all_goals
    obtain ⟨w4, hw4⟩ : ∃ w4, w4 = (w2.setCell ⟨w.heap.size + 1 + 1, 0, none⟩ (.int .i64 ck)).setCell ⟨w.heap.size + 1 + 1, 1, none⟩ (.bool true) := ⟨_, rfl⟩
    have R : Hid (Zk w4 (w.heap.size + 1)) := hide (by rw [hw4]; exact R.out.far hrq _ _)
    have u0 : w4.cell? ⟨w.heap.size + 1 + 1, 0, none⟩ = some (.int .i64 ck) := by rw [hw4]; exact set_two Q.out.c0 Q.out.c1 0 _ rfl
    have u1 : w4.cell? ⟨w.heap.size + 1 + 1, 1, none⟩ = some (.bool true) := by rw [hw4]; exact set_two Q.out.c0 Q.out.c1 1 _ rfl
    have hb0 : Below w.heap.size w w4 := by rw [hw4]; exact below_set2' hb0 (by omega) _ _
    rw [← hw4]
    clear hw4 Q
    obtain ⟨r0, r1, s0, s1, _⟩ := R.out
    go_wp2
    refine bodyPost_ret (v := .tuple #[.agg (Kd.cells ⟨0, false⟩).toArray, .int .i64 7]) (results_cells2 (cs := Kd.cells ⟨0, false⟩) rfl _ _ (w.heap.size + 1) _ _ rfl rfl (set_two R.out.c0 R.out.c1) Tryz.underlying167 rfl (by kernel_rfl)) rfl ⟨by rw [HN.out]; rfl, below_set2' hb0 (by omega) _ _⟩
end Go.Proofs.YtodapiholjeehaaGreatDoor
