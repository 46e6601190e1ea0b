/-
  warehouselaw9.ScalarTypes: it returns true. warehouselaw9.ScalarEvals: it returns true. warehouselaw9.ScalarSound: it returns true. warehouselaw9.ScalarLogic: it returns true. (Printed by gen_lw.py.) warehouseref8.Add, Columns: the names of the columns that an expression names. warehouselaw9.ScalarDepends: it returns true.
-/
import Derived.Test.YtmnhahilbbnkkaaGreatDoorLawD
import Derived.Test.YtmnhahilbbnkkaaGreatDoorGak
namespace Go.Proofs.YtmnhahilbbnkkaaGreatDoor
open Go.RowKit
set_option linter.unusedSimpArgs false
set_option linter.unusedVariables false

theorem expr5 (d : Nat) (hd : d ≤ 4) (D : Int) (hD : D = (d : Int)) (k : Int) (h0 : 1 ≤ k) (h1 : k ≤ 4) (a : Int) (h2 : 0 ≤ a) (h3 : a ≤ 1000) (w : World) (A1 : Option Addr) (n1 c1 : Nat) (hc : In w A1 n1 c1 cols5) (A : Option Addr) (n c : Nat) (l : List Int) (hl : In w A n c l) :
    Calls Tryz.prog 9 #[.int .i64 k, .slice A1 n1 c1, .slice A n c, .int .i64 a, .int .i64 D] w fun e w' => NdsOk w w' e (Ok cols5 k d) ∧ Below w.heap.size w w' := by
  subst hD
  refine expr_at cols5 cols5_good d (by omega) k h0 h1 a h2 ?_ w A1 n1 c1 hc A n c l hl
  have : d = 0 ∨ d = 1 ∨ d = 2 ∨ d = 3 ∨ d = 4 := by omega
  rcases this with rfl | rfl | rfl | rfl | rfl <;> (rw [atB]; omega)
set_option maxHeartbeats 8000000 in
set_option maxRecDepth 100000 in
theorem lawTypes_any (w : World) (A : Option Addr) (n c : Nat) (r : List Node) (hx : In w A n c r) (hw : Words w) (A1 : Option Addr) (n1 c1 : Nat) (cols : List Col) (hc : In w A1 n1 c1 cols)
    (A2 : Option Addr) (n2 c2 : Nat) (zs : List Zone) (hz : In w A2 n2 c2 zs) (A3 : Option Addr) (n3 c3 : Nat) (l : List Int) (hl : In w A3 n3 c3 l) (m : Int) :
    Calls Tryz.prog 3 #[.slice A n c, .slice A1 n1 c1, .slice A2 n2 c2, .slice A3 n3 c3, .int .i64 m] w fun e w' => e = .returned (.bool true) ∧ Below w.heap.size w w' := by
  have h63 := hx.le
  have h64 := hc.le
  have h65 := hz.le
  obtain ⟨v1, hv1, hv10, hv11⟩ := and_ex m 3 (by omega)
  have hv1' : bits BinOp.and IntKind.i64 m 3 = v1 := hv1
  obtain ⟨kd, hkd, hkw⟩ := wr_ (v := 1 + v1) (by omega)
  have hk0 : 1 ≤ kd := by omega
  have hk1 : kd ≤ 4 := by omega
  obtain ⟨v2, hv2, hv20, hv21⟩ := and_ex (m / 4) 15 (by omega)
  have hv2' : bits BinOp.and IntKind.i64 (m / 4) 15 = v2 := hv2
  obtain ⟨v3, hv3, hv30, hv31⟩ := and_ex (m / 64) 3 (by omega)
  have hv3' : bits BinOp.and IntKind.i64 (m / 64) 3 = v3 := hv3
  obtain ⟨q, hq, hqw⟩ := wr_ (v := 1 + v3) (by omega)
  obtain ⟨qn, rfl⟩ := Int.eq_ofNat_of_zero_le (show 0 ≤ q by omega)
  have hq5 : qn ≤ 5 := by omega
  have hq5i : (qn : Int) ≤ 5 := by omega
  have hq0i : (0 : Int) ≤ (qn : Int) := by omega
  obtain ⟨v4, hv4, hv40, hv41⟩ := and_ex (m / 256) 3 (by omega)
  obtain ⟨zn, rfl⟩ := Int.eq_ofNat_of_zero_le hv40
  have hv4' : bits BinOp.and IntKind.i64 (m / 256) 3 = (zn : Int) := hv4
  have hz3 : zn ≤ 3 := by omega
  have hz3i : (zn : Int) ≤ 3 := by omega
  have hz0i : (0 : Int) ≤ (zn : Int) := by omega
  clear hkd hq hv1 hv2 hv3 hv4
  go_enter Tryz.func3, Tryz.ntmps3
  by_cases q1 : 300 < n
  · go_wp2_with fail
    refine (known_any _ hw).mono ?_
    rintro e w1 ⟨rfl, hb1⟩
    go_wp2
    go_ret
    exact ⟨rfl, hb1⟩
  by_cases q2 : 50 < n1
  · go_wp2_with fail
    refine (known_any _ hw).mono ?_
    rintro e w1 ⟨rfl, hb1⟩
    go_wp2
    go_ret
    exact ⟨rfl, hb1⟩
  by_cases q3 : 20 < n2
  · go_wp2_with fail
    refine (known_any _ hw).mono ?_
    rintro e w1 ⟨rfl, hb1⟩
    go_wp2
    go_ret
    exact ⟨rfl, hb1⟩
  go_wp2_with fail
  refine (columns_any _).mono ?_
  rintro e w1 ⟨⟨rfl, hc1⟩, hb1⟩
  obtain ⟨g1, hg1⟩ : ∃ g, w.heap.size = g := ⟨_, rfl⟩
  rw [hg1] at hc1
  have hs1 := hide hg1
  clear hg1
  go_wp2_with fail
  refine (expr5 3 (by omega) 3 rfl kd hk0 hk1 v2 hv20 (by omega) _ _ _ _ (by rw [← hs1.out] at hc1; exact hc1) _ _ _ l (hl.below hb1)).mono ?_
  rintro e w2 ⟨⟨es, ⟨Ae, ce, rfl, hst⟩, hok⟩, hb2⟩
  have NE := hide hst.inn
  have bb2 := below_trans hb1 hb2
  have HW := hide (hw.below bb2)
  have HX := hide (hx.below bb2)
  have HC := hide (hc.below bb2)
  have HZ := hide (hz.below bb2)
  have sA : Hid True := hide trivial
  have k0 : (0 : Int) ≤ 0 := by omega
  clear hst hok hb1 hb2 hc1 hw hx hc hz hl
  go_wp2
  go_region_held3 (fun V => True) (first | exact trivial) (first
    | (clear sA; go_at_call 11; refine (types_any _ _ _ _ r (HX.out.below (Below.refl _ _).drew) (HW.out.below (Below.refl _ _).drew) _ _ _ cols (HC.out.below (Below.refl _ _).drew) _ _ _ zs (HZ.out.below (Below.refl _ _).drew)).mono ?_; rintro e w3 ⟨rfl, hb3⟩; have sB : Hid True := hide trivial; have b3 : Hid (Below w2.heap.size w2 w3) := hide (below_undrew hb3); clear hb3)
    | (clear sB; go_at_call 10; refine (columns_any _).mono ?_; rintro e w4 ⟨⟨rfl, hc4⟩, hb4⟩; have sC : Hid True := hide trivial; have b4 := hide (below_trans b3.out hb4); have H4 := hide hc4; clear hc4 hb4)
    | (clear sC; go_at_call 12; refine (zones_any _).mono ?_; rintro e w5 ⟨⟨g5, rfl, hz5⟩, hb5⟩; have sD : Hid True := hide trivial; have b5 := hide (below_trans b4.out hb5); have H4 := hide (H4.out.below hb5); have Z5 := hide hz5; clear hz5 hb5)
    | (clear sD; go_at_call 11; refine (types_any _ _ _ _ es (NE.out.below b5.out) (HW.out.below b5.out) _ _ _ cols5 H4.out _ _ _ zs3 Z5.out).mono ?_; rintro e w6 ⟨rfl, hb6⟩; have sE : Hid True := hide trivial; have b6 := hide (below_trans b5.out hb6); clear hb6)
    | (clear sE; go_at_call 10; refine (columns_any _).mono ?_; rintro e w7 ⟨⟨rfl, hc7⟩, hb7⟩; have sF : Hid True := hide trivial; have b7 := hide (below_trans b6.out hb7); have H7 := hide (hc7.take hq5); clear hc7 hb7)
    | (clear sF; go_at_call 12; refine (zones_any _).mono ?_; rintro e w8 ⟨⟨g8, rfl, hz8⟩, hb8⟩; have sG : Hid True := hide trivial; have b8 := hide (below_trans b7.out hb8); have H7 := hide (H7.out.below hb8); have Z8 := hide (hz8.take hz3); clear hz8 hb8)
    | (clear sG; go_at_call 11; refine (types_any _ _ _ _ es (NE.out.below b8.out) (HW.out.below b8.out) _ _ _ (cols5.take qn) H7.out _ _ _ (zs3.take zn) Z8.out).mono ?_; rintro e w9 ⟨rfl, hb9⟩; have sH : Hid True := hide trivial; have b9 := hide (below_trans b8.out hb9); clear hb9)
    | (clear sH; go_at_call 8; refine (known_any _ (HW.out.below b9.out)).mono ?_; rintro e w10 ⟨rfl, hb10⟩; have sI : Hid True := hide trivial; have b10 := hide (below_trans b9.out hb10); clear hb10))
  all_goals (
    go_wp2
    go_ret
    exact ⟨rfl, below_trans bb2 b10.out⟩)
end Go.Proofs.YtmnhahilbbnkkaaGreatDoor

namespace Go.Proofs.YtmnhahilbbnkkaaGreatDoor
open Go.RowKit
set_option linter.unusedSimpArgs false
set_option linter.unusedVariables false

theorem cols5_cgood : ∀ x ∈ cols5, x.good := by
  intro x hx
  simp only [cols5, List.mem_cons, List.mem_nil_iff, or_false] at hx
  rcases hx with rfl | rfl | rfl | rfl | rfl <;> simp [Col.good, Col.ok, Str, I64, ByteArray.size]
/-- A row for the statements' columns. -/
theorem row5 (w : World) (A A2 : Option Addr) (n2 c c2 : Nat) (l : List Int) (hx : In w A 5 c cols5) (hl : In w A2 n2 c2 l) (a : Int) (ha0 : 0 ≤ a) (ha1 : a ≤ 100000) :
    Calls Tryz.prog 13 #[.slice A 5 c, .slice A2 n2 c2, .int .i64 a] w fun e w' => (∃ B c' vs, e = .returned (.slice B 5 c') ∧ In w' B 5 c' vs ∧ rowErr cols5 vs = 0) ∧ Below w.heap.size w w' := by
  refine (row_any w A A2 5 n2 c c2 cols5 l hx cols5_cgood hl a ha0 ha1 (by omega)).mono ?_
  rintro e w' ⟨⟨B, c', vs, rfl, h1, h2⟩, hb⟩
  exact ⟨⟨B, c', vs, rfl, In.of_sl h1 fun q hq => hq.2.lt, h2⟩, hb⟩
set_option maxHeartbeats 8000000 in
set_option maxRecDepth 100000 in
theorem lawEvals_any (w : World) (A : Option Addr) (n c : Nat) (r : List Node) (hx : In w A n c r) (hw : Words w) (A1 : Option Addr) (n1 c1 : Nat) (cols : List Col) (hc : In w A1 n1 c1 cols)
    (A4 : Option Addr) (n4 c4 : Nat) (row : List Val) (hr : In w A4 n4 c4 row) (A2 : Option Addr) (n2 c2 : Nat) (zs : List Zone) (hz : In w A2 n2 c2 zs) (A3 : Option Addr) (n3 c3 : Nat) (l : List Int) (hl : In w A3 n3 c3 l) (m : Int) :
    Calls Tryz.prog 4 #[.slice A n c, .slice A1 n1 c1, .slice A4 n4 c4, .slice A2 n2 c2, .slice A3 n3 c3, .int .i64 m] w fun e w' => e = .returned (.bool true) ∧ Below w.heap.size w w' := by
  have h63 := hx.le
  have h64 := hc.le
  have h65 := hz.le
  have h66 := hr.le
  obtain ⟨v1, hv1, hv10, hv11⟩ := and_ex m 3 (by omega)
  have hv1' : bits BinOp.and IntKind.i64 m 3 = v1 := hv1
  obtain ⟨kd, hkd, hkw⟩ := wr_ (v := 1 + v1) (by omega)
  have hk0 : 1 ≤ kd := by omega
  have hk1 : kd ≤ 4 := by omega
  obtain ⟨v2, hv2, hv20, hv21⟩ := and_ex (m / 4) 15 (by omega)
  have hv2' : bits BinOp.and IntKind.i64 (m / 4) 15 = v2 := hv2
  obtain ⟨v3, hv3, hv30, hv31⟩ := and_ex (m / 64) 7 (by omega)
  have hv3' : bits BinOp.and IntKind.i64 (m / 64) 7 = v3 := hv3
  obtain ⟨q, hq, hq0, hq1⟩ := tm hv30 6 (by omega)
  obtain ⟨qn, rfl⟩ := Int.eq_ofNat_of_zero_le hq0
  have hq5 : qn ≤ 5 := by omega
  have hq0i : (0 : Int) ≤ (qn : Int) := by omega
  clear hkd hv1 hv2 hv3
  go_enter Tryz.func4, Tryz.ntmps4
  by_cases q1 : 300 < n
  · go_wp2_with fail
    refine (known_any _ hw).mono ?_
    rintro e w1 ⟨rfl, hb1⟩
    go_wp2
    go_ret
    exact ⟨rfl, hb1⟩
  by_cases q2 : 50 < n1
  · go_wp2_with fail
    refine (known_any _ hw).mono ?_
    rintro e w1 ⟨rfl, hb1⟩
    go_wp2
    go_ret
    exact ⟨rfl, hb1⟩
  by_cases q4 : 50 < n4
  · go_wp2_with fail
    refine (known_any _ hw).mono ?_
    rintro e w1 ⟨rfl, hb1⟩
    go_wp2
    go_ret
    exact ⟨rfl, hb1⟩
  by_cases q3 : 20 < n2
  · go_wp2_with fail
    refine (known_any _ hw).mono ?_
    rintro e w1 ⟨rfl, hb1⟩
    go_wp2
    go_ret
    exact ⟨rfl, hb1⟩
  go_wp2_with fail
  refine (columns_any _).mono ?_
  rintro e w1 ⟨⟨rfl, hc1⟩, hb1⟩
  obtain ⟨g1, hg1⟩ : ∃ g, w.heap.size = g := ⟨_, rfl⟩
  rw [hg1] at hc1
  have hs1 := hide hg1
  clear hg1
  go_wp2_with fail
  refine (expr5 3 (by omega) 3 rfl kd hk0 hk1 v2 hv20 (by omega) _ _ _ _ (by rw [← hs1.out] at hc1; exact hc1) _ _ _ l (hl.below hb1)).mono ?_
  rintro e w2 ⟨⟨es, ⟨Ae, ce, rfl, hst⟩, hok⟩, hb2⟩
  have NE := hide hst.inn
  have bb2 := below_trans hb1 hb2
  clear hst hok hb1 hb2 hc1
  go_wp2_with fail
  refine (columns_any _).mono ?_
  rintro e w3 ⟨⟨rfl, hc3⟩, hb3⟩
  have NE := hide (NE.out.below hb3)
  have bb3 := below_trans bb2 hb3
  clear hb3 bb2
  go_wp2_with fail
  refine (row5 _ _ _ _ _ _ l hc3 (hl.below bb3) 5 (by omega) (by omega)).mono ?_
  rintro e w2 ⟨⟨Ar, cr, vs, rfl, hvs, _⟩, hb2⟩
  have bb2 := below_trans bb3 hb2
  have NE := hide (NE.out.below hb2)
  have HV := hide hvs
  have hcr : (qn : Int) ≤ (cr : Int) := by have := hvs.cap.1; omega
  have HW := hide (hw.below bb2)
  have HX := hide (hx.below bb2)
  have HC := hide (hc.below bb2)
  have HR := hide (hr.below bb2)
  have HZ := hide (hz.below bb2)
  have sA : Hid True := hide trivial
  have k0 : (0 : Int) ≤ 0 := by omega
  clear hvs hb2 bb3 hc3 hw hx hc hr hz hl
  go_wp2
  go_region_held3 (fun V => True) (first | exact trivial) (first
    | (clear sA; go_at_call 14; refine (evals_any _ _ _ _ r (HX.out.below (Below.refl _ _).drew) (HW.out.below (Below.refl _ _).drew) _ _ _ cols (HC.out.below (Below.refl _ _).drew) _ _ _ row (HR.out.below (Below.refl _ _).drew) _ _ _ zs (HZ.out.below (Below.refl _ _).drew)).mono ?_; rintro e w3 ⟨rfl, hb3⟩; have sB : Hid True := hide trivial; have b3 : Hid (Below w2.heap.size w2 w3) := hide (below_undrew hb3); clear hb3)
    | (clear sB; go_at_call 10; refine (columns_any _).mono ?_; rintro e w4 ⟨⟨rfl, hc4⟩, hb4⟩; have sC : Hid True := hide trivial; have b4 := hide (below_trans b3.out hb4); have H4 := hide hc4; clear hc4 hb4)
    | (clear sC; go_at_call 12; refine (zones_any _).mono ?_; rintro e w5 ⟨⟨g5, rfl, hz5⟩, hb5⟩; have sD : Hid True := hide trivial; have b5 := hide (below_trans b4.out hb5); have H4 := hide (H4.out.below hb5); have Z5 := hide hz5; clear hz5 hb5)
    | (clear sD; go_at_call 14; refine (evals_any _ _ _ _ es (NE.out.below b5.out) (HW.out.below b5.out) _ _ _ cols5 H4.out _ _ _ vs (HV.out.below b5.out) _ _ _ zs3 Z5.out).mono ?_; rintro e w6 ⟨rfl, hb6⟩; have sE : Hid True := hide trivial; have b6 := hide (below_trans b5.out hb6); clear hb6)
    | (clear sE; go_at_call 10; refine (columns_any _).mono ?_; rintro e w7 ⟨⟨rfl, hc7⟩, hb7⟩; have sF : Hid True := hide trivial; have b7 := hide (below_trans b6.out hb7); have H7 := hide hc7; clear hc7 hb7)
    | (clear sF; go_at_call 12; refine (zones_any _).mono ?_; rintro e w8 ⟨⟨g8, rfl, hz8⟩, hb8⟩; have sG : Hid True := hide trivial; have b8 := hide (below_trans b7.out hb8); have H7 := hide (H7.out.below hb8); have Z8 := hide hz8; clear hz8 hb8)
    | (clear sG; go_at_call 14; refine (evals_any _ _ _ _ es (NE.out.below b8.out) (HW.out.below b8.out) _ _ _ cols5 H7.out _ _ _ (vs.take qn) ((HV.out.take hq5).below b8.out) _ _ _ zs3 Z8.out).mono ?_; rintro e w9 ⟨rfl, hb9⟩; have sH : Hid True := hide trivial; have b9 := hide (below_trans b8.out hb9); clear hb9)
    | (clear sH; go_at_call 8; refine (known_any _ (HW.out.below b9.out)).mono ?_; rintro e w10 ⟨rfl, hb10⟩; have sI : Hid True := hide trivial; have b10 := hide (below_trans b9.out hb10); clear hb10))
  all_goals (
    go_wp2
    go_ret
    exact ⟨rfl, below_trans bb2 b10.out⟩)
end Go.Proofs.YtmnhahilbbnkkaaGreatDoor

namespace Go.Proofs.YtmnhahilbbnkkaaGreatDoor
open Go.RowKit
set_option linter.unusedSimpArgs false
set_option linter.unusedVariables false

set_option maxHeartbeats 8000000 in
set_option maxRecDepth 100000 in
theorem lawSound_any (w : World) (hw : Words w) (A : Option Addr) (n c : Nat) (l : List Int) (hl : In w A n c l) (A1 : Option Addr) (n1 c1 : Nat) (l1 : List Int) (hl1 : In w A1 n1 c1 l1) (m : Int) :
    Calls Tryz.prog 5 #[.slice A n c, .slice A1 n1 c1, .int .i64 m] w fun e w' => e = .returned (.bool true) ∧ Below w.heap.size w w' := by
  obtain ⟨v1, hv1, hv10, hv11⟩ := and_ex m 3 (by omega)
  have hv1' : bits BinOp.and IntKind.i64 m 3 = v1 := hv1
  obtain ⟨kd, hkd, hkw⟩ := wr_ (v := 1 + v1) (by omega)
  have hk0 : 1 ≤ kd := by omega
  have hk1 : kd ≤ 4 := by omega
  obtain ⟨v2, hv2, hv20, hv21⟩ := and_ex (m / 4) 15 (by omega)
  have hv2' : bits BinOp.and IntKind.i64 (m / 4) 15 = v2 := hv2
  obtain ⟨v3, hv3, hv30, hv31⟩ := and_ex (m / 64) 15 (by omega)
  have hv3' : bits BinOp.and IntKind.i64 (m / 64) 15 = v3 := hv3
  clear hkd hv1 hv2 hv3
  go_enter Tryz.func5, Tryz.ntmps5
  go_wp2_with fail
  refine (columns_any _).mono ?_
  rintro e w1 ⟨⟨rfl, hc1⟩, hb1⟩
  go_wp2_with fail
  refine (expr5 4 (by omega) 4 rfl kd hk0 hk1 v2 hv20 (by omega) _ _ _ _ hc1 _ _ _ l (hl.below hb1)).mono ?_
  rintro e w2 ⟨⟨es, ⟨Ae, ce, rfl, hst⟩, hok⟩, hb2⟩
  have NE := hide hst.inn
  have HO := hide hok
  have bb2 := below_trans hb1 hb2
  clear hst hok hb1 hb2 hc1
  -- Type
  go_wp2_with fail
  refine (columns_any _).mono ?_
  rintro e w3 ⟨⟨rfl, hc3⟩, hb3⟩
  have bb3 := below_trans bb2 hb3
  have NE := hide (NE.out.below hb3)
  have HC := hide hc3
  clear hb3 bb2 hc3
  go_wp2_with fail
  refine (zones_any _).mono ?_
  rintro e w4 ⟨⟨g4, rfl, hz4⟩, hb4⟩
  have bb4 := below_trans bb3 hb4
  have NE := hide (NE.out.below hb4)
  have HC := hide (HC.out.below hb4)
  have HZ := hide hz4
  clear hb4 bb3 hz4
  go_wp2_with fail
  refine (type_any _ _ _ _ es NE.out (hw.below bb4) _ _ _ cols5 HC.out _ _ _ zs3 HZ.out).mono ?_
  rintro e w5 ⟨rfl, hb5⟩
  have bb5 := below_trans bb4 hb5
  have NE := hide (NE.out.below hb5)
  obtain ⟨⟨tk, tn⟩, htt, _⟩ := HO.out.typeS cols5_good (by omega)
  have HT := hide htt
  rw [htt]
  clear htt hb5 bb4 HC HZ
  -- Eval
  go_wp2_with fail
  refine (columns_any _).mono ?_
  rintro e w6 ⟨⟨rfl, hc6⟩, hb6⟩
  have bb6 := below_trans bb5 hb6
  have NE := hide (NE.out.below hb6)
  have HC := hide hc6
  clear hb6 bb5 hc6
  go_wp2_with fail
  refine (columns_any _).mono ?_
  rintro e w7 ⟨⟨rfl, hc7⟩, hb7⟩
  have bb7 := below_trans bb6 hb7
  have NE := hide (NE.out.below hb7)
  have HC := hide (HC.out.below hb7)
  have HC7 := hide hc7
  clear hb7 bb6 hc7
  go_wp2_with fail
  refine (row5 _ _ _ _ _ _ l1 HC7.out (hl1.below bb7) v3 hv30 (by omega)).mono ?_
  rintro e w8 ⟨⟨Ar, cr, vs, rfl, hvs, hro⟩, hb8⟩
  have bb8 := below_trans bb7 hb8
  have NE := hide (NE.out.below hb8)
  have HC := hide (HC.out.below hb8)
  have HV := hide hvs
  obtain ⟨kd2, v, e1, _, e2, hkok, hhas⟩ := HO.out.eval (by omega) hro
  have HE := hide e2
  have hkd2 : kd2 = ⟨tk, tn⟩ := by have := HT.out; rw [e1] at this; injection this
  subst hkd2
  have hvalid := hhas.1
  have hkind := hhas.2
  have hvok := valid_ok hhas.1
  clear hb8 bb7 hvs HC7 e1 e2 hhas hro hkok
  go_wp2_with fail
  refine (zones_any _).mono ?_
  rintro e w9 ⟨⟨g9, rfl, hz9⟩, hb9⟩
  have bb9 := below_trans bb8 hb9
  have NE := hide (NE.out.below hb9)
  have HC := hide (HC.out.below hb9)
  have HV := hide (HV.out.below hb9)
  have HZ := hide hz9
  clear hb9 bb8 hz9
  go_wp2_with fail
  refine (eval_any _ _ _ _ es NE.out (hw.below bb9) _ _ _ cols5 HC.out _ _ _ vs HV.out _ _ _ zs3 HZ.out).mono ?_
  rintro e w10 ⟨rfl, hb10⟩
  have bb10 := below_trans bb9 hb10
  rw [HE.out]
  obtain ⟨vk, vn, vt⟩ := v
  simp only at hkind
  have HVA := hide hvalid
  have HVO := hide hvok
  have HKI := hide hkind
  clear hb10 bb9 HC HV HZ NE HE hvalid hvok hkind HO HT
  simp only [Val.cells]
  obtain ⟨w11, hw11⟩ : ∃ w11, w11 = w10.alloc (.cells #[.int .i64 vk, .int .i64 vn, .string vt] 41) := ⟨_, rfl⟩
  have y0 : w11.cell? ⟨w10.heap.size, 0, none⟩ = some (.int .i64 vk) := by rw [hw11]; simp [go_sem]
  have y1 : w11.cell? ⟨w10.heap.size, 1, none⟩ = some (.int .i64 vn) := by rw [hw11]; simp [go_sem]
  have y2 : w11.cell? ⟨w10.heap.size, 2, none⟩ = some (.string vt) := by rw [hw11]; simp [go_sem]
  have bb11 : Below w.heap.size w w11 := by rw [hw11]; exact bb10.alloc bb10.size _
  go_upto_region 4 with (fail)
  rw [← hw11]
  obtain ⟨G, hG⟩ : ∃ G, w10.heap.size = G := ⟨_, rfl⟩
  rw [hG] at y0 y1 y2
  rw [hG]
  have hg := lt_of_cell y0
  clear hw11 hG bb10
  go_wp2_with fail
  refine (valid_ref ⟨vk, vn, vt⟩ HVO.out _).mono ?_
  rintro e w12 ⟨rfl, hb12⟩
  rw [HVA.out]
  have bb12 := below_trans bb11 hb12
  have y0 := bat hb12 hg y0
  have HW := hide (hw.below bb12)
  clear hb12 bb11 y1 y2
  by_cases hkk : vk = tk
  · subst hkk
    go_wp2_with fail
    refine (known_any _ HW.out).mono ?_
    rintro e w13 ⟨rfl, hb13⟩
    go_wp2
    go_ret
    exact ⟨rfl, below_trans bb12 hb13⟩
  · obtain ⟨hk0, hkn⟩ := HKI.out.resolve_left hkk
    subst hk0 hkn
    have hkq : ((0 : Int) == tk) = false := by simpa using hkk
    go_wp2_with fail
    refine (known_any _ HW.out).mono ?_
    rintro e w13 ⟨rfl, hb13⟩
    go_wp2
    go_ret
    exact ⟨rfl, below_trans bb12 hb13⟩
end Go.Proofs.YtmnhahilbbnkkaaGreatDoor

namespace Go.Proofs.YtmnhahilbbnkkaaGreatDoor
open Go.RowKit
set_option linter.unusedSimpArgs false
set_option linter.unusedVariables false

set_option maxHeartbeats 8000000 in
set_option maxRecDepth 100000 in
theorem lawLogic_any (w : World) (hw : Words w) (A : Option Addr) (n c : Nat) (l : List Int) (hl : In w A n c l) (A1 : Option Addr) (n1 c1 : Nat) (l1 : List Int) (hl1 : In w A1 n1 c1 l1) (m : Int) :
    Calls Tryz.prog 6 #[.slice A n c, .slice A1 n1 c1, .int .i64 m] w fun e w' => e = .returned (.bool true) ∧ Below w.heap.size w w' := by
  obtain ⟨v1, hv1, hv10, hv11⟩ := and_ex m 7 (by omega)
  have hv1' : bits BinOp.and IntKind.i64 m 7 = v1 := hv1
  obtain ⟨v2, hv2, hv20, hv21⟩ := and_ex (m / 8) 7 (by omega)
  have hv2' : bits BinOp.and IntKind.i64 (m / 8) 7 = v2 := hv2
  obtain ⟨p2, hp2, hpw⟩ := wr_ (v := v2 + 20) (by omega)
  have hp0 : 0 ≤ p2 := by omega
  have hp1 : p2 ≤ 1000 := by omega
  obtain ⟨v3, hv3, hv30, hv31⟩ := and_ex (m / 64) 15 (by omega)
  have hv3' : bits BinOp.and IntKind.i64 (m / 64) 15 = v3 := hv3
  clear hp2 hv1 hv2 hv3
  go_enter Tryz.func6, Tryz.ntmps6
  go_wp2_with fail
  refine (columns_any _).mono ?_
  rintro e w1 ⟨⟨rfl, hcx⟩, hb1⟩
  have bb_w1 := hb1
  clear hb1
  have C1 := hide hcx
  clear hcx
  go_wp2_with fail
  refine (expr5 2 (by omega) 2 rfl 1 (by omega) (by omega) v1 hv10 (by omega) _ _ _ _ C1.out _ _ _ l (hl.below bb_w1)).mono ?_
  rintro e w2 ⟨⟨es, ⟨A_es, c_es, rfl, hst⟩, hok⟩, hb2⟩
  have N_es := hide hst.inn
  have O_es := hide hok
  clear hst hok
  have C1 := hide (C1.out.below hb2)
  have bb_w2 := below_trans bb_w1 hb2
  clear hb2 bb_w1
  clear C1
  go_wp2_with fail
  refine (columns_any _).mono ?_
  rintro e w3 ⟨⟨rfl, hcx⟩, hb3⟩
  have N_es := hide (N_es.out.below hb3)
  have bb_w3 := below_trans bb_w2 hb3
  clear hb3 bb_w2
  have C2 := hide hcx
  clear hcx
  go_wp2_with fail
  refine (expr5 2 (by omega) 2 rfl 1 (by omega) (by omega) p2 hp0 hp1 _ _ _ _ C2.out _ _ _ l (hl.below bb_w3)).mono ?_
  rintro e w4 ⟨⟨fs, ⟨A_fs, c_fs, rfl, hst⟩, hok⟩, hb4⟩
  have N_fs := hide hst.inn
  have O_fs := hide hok
  clear hst hok
  have N_es := hide (N_es.out.below hb4)
  have C2 := hide (C2.out.below hb4)
  have bb_w4 := below_trans bb_w3 hb4
  clear hb4 bb_w3
  clear C2
  go_wp2_with fail
  refine (columns_any _).mono ?_
  rintro e w5 ⟨⟨rfl, hcx⟩, hb5⟩
  have N_es := hide (N_es.out.below hb5)
  have N_fs := hide (N_fs.out.below hb5)
  have bb_w5 := below_trans bb_w4 hb5
  clear hb5 bb_w4
  have C3 := hide hcx
  clear hcx
  go_wp2_with fail
  refine (row5 _ _ _ _ _ _ l1 C3.out (hl1.below bb_w5) v3 hv30 (by omega)).mono ?_
  rintro e w6 ⟨⟨Ar, cr, vs, rfl, hvs, hro⟩, hb6⟩
  have VS := hide hvs
  clear hvs
  clear C3
  have N_es := hide (N_es.out.below hb6)
  have N_fs := hide (N_fs.out.below hb6)
  have bb_w6 := below_trans bb_w5 hb6
  clear hb6 bb_w5
  obtain ⟨pv, sv, ex1, ex2, ex3, ex4, ex5⟩ := logic_law O_es.out O_fs.out hro
  obtain ⟨pk, pn, ps⟩ := pv
  obtain ⟨sk, sn, ss⟩ := sv
  have X1 := hide ex1
  have X2 := hide ex2
  have X3 := hide ex3
  have X4 := hide ex4
  have X5 := hide ex5
  have ha : es.length ≤ 200 := (by have := O_es.out.length; exact Nat.le_trans this (by decide))
  have hb : fs.length ≤ 200 := (by have := O_fs.out.length; exact Nat.le_trans this (by decide))
  clear ex1 ex2 ex3 ex4 ex5 hro
  go_wp2_with fail
  refine (both_any 14 (by simp [I64]) _ _ _ _ _ N_es.out _ _ _ _ N_fs.out (by omega) (by omega)).mono ?_
  rintro e w7 ⟨hnd, hb7⟩
  obtain ⟨L1, h_L1⟩ : ∃ q, (es ++ fs) ++ [opNode 14] = q := ⟨_, rfl⟩
  rw [h_L1] at hnd
  obtain ⟨A_L1, c_L1, rfl, hst⟩ := hnd
  have E_L1 := hide h_L1
  have N_L1 := hide hst.inn
  clear h_L1 hst
  have N_es := hide (N_es.out.below hb7)
  have N_fs := hide (N_fs.out.below hb7)
  have VS := hide (VS.out.below hb7)
  have bb_w7 := below_trans bb_w6 hb7
  clear hb7 bb_w6
  have F1 : evalS L1 cols5 vs zs3 = (0, ⟨pk, pn, ps⟩) := by rw [← E_L1.out]; exact X1.out
  go_wp2_with fail
  refine (valueE_any _ _ _ _ L1 N_L1.out (hw.below bb_w7) _ _ _ vs VS.out).mono ?_
  rintro e w8 ⟨rfl, hb8⟩
  rw [F1]
  simp only [Val.cells]
  have N_es := hide (N_es.out.below hb8)
  have N_fs := hide (N_fs.out.below hb8)
  have VS := hide (VS.out.below hb8)
  have N_L1 := hide (N_L1.out.below hb8)
  have bb_w8 := below_trans bb_w7 hb8
  clear hb8 bb_w7
  obtain ⟨w9, hV⟩ : ∃ V, V = w8.alloc (.cells #[.int .i64 pk, .int .i64 pn, .string ps] 41) := ⟨_, rfl⟩
  have y0 : w9.cell? ⟨w8.heap.size, 0, none⟩ = some (.int .i64 pk) := by rw [hV]; simp [go_sem]
  have y1 : w9.cell? ⟨w8.heap.size, 1, none⟩ = some (.int .i64 pn) := by rw [hV]; simp [go_sem]
  have y2 : w9.cell? ⟨w8.heap.size, 2, none⟩ = some (.string ps) := by rw [hV]; simp [go_sem]
  have hbv : Below w8.heap.size w8 w9 := by rw [hV]; exact below_alloc
  go_upto_region 5 with (fail)
  rw [← hV]
  obtain ⟨G_y, hG⟩ : ∃ G, w8.heap.size = G := ⟨_, rfl⟩
  rw [hG] at y0 y1 y2
  rw [hG]
  clear hV hG
  have N_es := hide (N_es.out.below hbv)
  have N_fs := hide (N_fs.out.below hbv)
  have VS := hide (VS.out.below hbv)
  have N_L1 := hide (N_L1.out.below hbv)
  have bb_w9 := below_trans bb_w8 hbv
  clear hbv bb_w8
  have h_y := lt_of_cell y0
  clear N_L1
  clear F1
  go_wp2_with fail
  refine (both_any 14 (by simp [I64]) _ _ _ _ _ N_fs.out _ _ _ _ N_es.out (by omega) (by omega)).mono ?_
  rintro e w10 ⟨hnd, hb10⟩
  obtain ⟨L2, h_L2⟩ : ∃ q, (fs ++ es) ++ [opNode 14] = q := ⟨_, rfl⟩
  rw [h_L2] at hnd
  obtain ⟨A_L2, c_L2, rfl, hst⟩ := hnd
  have E_L2 := hide h_L2
  have N_L2 := hide hst.inn
  clear h_L2 hst
  have N_es := hide (N_es.out.below hb10)
  have N_fs := hide (N_fs.out.below hb10)
  have VS := hide (VS.out.below hb10)
  have y0 := bat hb10 h_y y0
  have y1 := bat hb10 h_y y1
  have y2 := bat hb10 h_y y2
  have h_y := lt_of_cell y0
  have bb_w10 := below_trans bb_w9 hb10
  clear hb10 bb_w9
  have F1 : evalS L2 cols5 vs zs3 = (0, ⟨pk, pn, ps⟩) := by rw [← E_L2.out]; exact X2.out
  go_wp2_with fail
  refine (valueE_any _ _ _ _ L2 N_L2.out (hw.below bb_w10) _ _ _ vs VS.out).mono ?_
  rintro e w11 ⟨rfl, hb11⟩
  rw [F1]
  simp only [Val.cells]
  have N_es := hide (N_es.out.below hb11)
  have N_fs := hide (N_fs.out.below hb11)
  have VS := hide (VS.out.below hb11)
  have N_L2 := hide (N_L2.out.below hb11)
  have y0 := bat hb11 h_y y0
  have y1 := bat hb11 h_y y1
  have y2 := bat hb11 h_y y2
  have h_y := lt_of_cell y0
  have bb_w11 := below_trans bb_w10 hb11
  clear hb11 bb_w10
  obtain ⟨w12, hV⟩ : ∃ V, V = w11.alloc (.cells #[.int .i64 pk, .int .i64 pn, .string ps] 41) := ⟨_, rfl⟩
  have z0 : w12.cell? ⟨w11.heap.size, 0, none⟩ = some (.int .i64 pk) := by rw [hV]; simp [go_sem]
  have z1 : w12.cell? ⟨w11.heap.size, 1, none⟩ = some (.int .i64 pn) := by rw [hV]; simp [go_sem]
  have z2 : w12.cell? ⟨w11.heap.size, 2, none⟩ = some (.string ps) := by rw [hV]; simp [go_sem]
  have hbv : Below w11.heap.size w11 w12 := by rw [hV]; exact below_alloc
  go_upto_region 6 with (fail)
  rw [← hV]
  obtain ⟨G_z, hG⟩ : ∃ G, w11.heap.size = G := ⟨_, rfl⟩
  rw [hG] at z0 z1 z2
  rw [hG]
  clear hV hG
  have N_es := hide (N_es.out.below hbv)
  have N_fs := hide (N_fs.out.below hbv)
  have VS := hide (VS.out.below hbv)
  have N_L2 := hide (N_L2.out.below hbv)
  have y0 := bat hbv h_y y0
  have y1 := bat hbv h_y y1
  have y2 := bat hbv h_y y2
  have h_y := lt_of_cell y0
  have bb_w12 := below_trans bb_w11 hbv
  clear hbv bb_w11
  have h_z := lt_of_cell z0
  clear N_L2
  clear F1
  go_wp2_with fail
  refine (notE_any _ _ _ _ es N_es.out (by omega)).mono ?_
  rintro e w13 ⟨hnd, hb13⟩
  obtain ⟨nax, h_nax⟩ : ∃ q, es ++ [opNode 2] = q := ⟨_, rfl⟩
  rw [h_nax] at hnd
  obtain ⟨A_nax, c_nax, rfl, hst⟩ := hnd
  have E_nax := hide h_nax
  have N_nax := hide hst.inn
  clear h_nax hst
  have N_es := hide (N_es.out.below hb13)
  have N_fs := hide (N_fs.out.below hb13)
  have VS := hide (VS.out.below hb13)
  have y0 := bat hb13 h_y y0
  have y1 := bat hb13 h_y y1
  have y2 := bat hb13 h_y y2
  have h_y := lt_of_cell y0
  have z0 := bat hb13 h_z z0
  have z1 := bat hb13 h_z z1
  have z2 := bat hb13 h_z z2
  have h_z := lt_of_cell z0
  have bb_w13 := below_trans bb_w12 hb13
  clear hb13 bb_w12
  have l_nax : nax.length ≤ 201 := by rw [← E_nax.out]; simp; omega
  go_wp2_with fail
  refine (notE_any _ _ _ _ fs N_fs.out (by omega)).mono ?_
  rintro e w14 ⟨hnd, hb14⟩
  obtain ⟨nbx, h_nbx⟩ : ∃ q, fs ++ [opNode 2] = q := ⟨_, rfl⟩
  rw [h_nbx] at hnd
  obtain ⟨A_nbx, c_nbx, rfl, hst⟩ := hnd
  have E_nbx := hide h_nbx
  have N_nbx := hide hst.inn
  clear h_nbx hst
  have N_es := hide (N_es.out.below hb14)
  have N_fs := hide (N_fs.out.below hb14)
  have VS := hide (VS.out.below hb14)
  have N_nax := hide (N_nax.out.below hb14)
  have y0 := bat hb14 h_y y0
  have y1 := bat hb14 h_y y1
  have y2 := bat hb14 h_y y2
  have h_y := lt_of_cell y0
  have z0 := bat hb14 h_z z0
  have z1 := bat hb14 h_z z1
  have z2 := bat hb14 h_z z2
  have h_z := lt_of_cell z0
  have bb_w14 := below_trans bb_w13 hb14
  clear hb14 bb_w13
  have l_nbx : nbx.length ≤ 201 := by rw [← E_nbx.out]; simp; omega
  go_wp2_with fail
  refine (both_any 15 (by simp [I64]) _ _ _ _ _ N_nax.out _ _ _ _ N_nbx.out (by omega) (by omega)).mono ?_
  rintro e w15 ⟨hnd, hb15⟩
  obtain ⟨ncx, h_ncx⟩ : ∃ q, (nax ++ nbx) ++ [opNode 15] = q := ⟨_, rfl⟩
  rw [h_ncx] at hnd
  obtain ⟨A_ncx, c_ncx, rfl, hst⟩ := hnd
  have E_ncx := hide h_ncx
  have N_ncx := hide hst.inn
  clear h_ncx hst
  have N_es := hide (N_es.out.below hb15)
  have N_fs := hide (N_fs.out.below hb15)
  have VS := hide (VS.out.below hb15)
  have N_nax := hide (N_nax.out.below hb15)
  have N_nbx := hide (N_nbx.out.below hb15)
  have y0 := bat hb15 h_y y0
  have y1 := bat hb15 h_y y1
  have y2 := bat hb15 h_y y2
  have h_y := lt_of_cell y0
  have z0 := bat hb15 h_z z0
  have z1 := bat hb15 h_z z1
  have z2 := bat hb15 h_z z2
  have h_z := lt_of_cell z0
  have bb_w15 := below_trans bb_w14 hb15
  clear hb15 bb_w14
  have l_ncx : ncx.length ≤ 403 := by rw [← E_ncx.out]; simp; omega
  clear N_nax
  clear N_nbx
  go_wp2_with fail
  refine (notE_any _ _ _ _ ncx N_ncx.out (by omega)).mono ?_
  rintro e w16 ⟨hnd, hb16⟩
  obtain ⟨ndx, h_ndx⟩ : ∃ q, ncx ++ [opNode 2] = q := ⟨_, rfl⟩
  rw [h_ndx] at hnd
  obtain ⟨A_ndx, c_ndx, rfl, hst⟩ := hnd
  have E_ndx := hide h_ndx
  have N_ndx := hide hst.inn
  clear h_ndx hst
  have N_es := hide (N_es.out.below hb16)
  have N_fs := hide (N_fs.out.below hb16)
  have VS := hide (VS.out.below hb16)
  have N_ncx := hide (N_ncx.out.below hb16)
  have y0 := bat hb16 h_y y0
  have y1 := bat hb16 h_y y1
  have y2 := bat hb16 h_y y2
  have h_y := lt_of_cell y0
  have z0 := bat hb16 h_z z0
  have z1 := bat hb16 h_z z1
  have z2 := bat hb16 h_z z2
  have h_z := lt_of_cell z0
  have bb_w16 := below_trans bb_w15 hb16
  clear hb16 bb_w15
  clear N_ncx
  have F1 : evalS ndx cols5 vs zs3 = (0, ⟨pk, pn, ps⟩) := by rw [← E_ndx.out, ← E_ncx.out, ← E_nax.out, ← E_nbx.out]; exact X3.out
  go_wp2_with fail
  refine (valueE_any _ _ _ _ ndx N_ndx.out (hw.below bb_w16) _ _ _ vs VS.out).mono ?_
  rintro e w17 ⟨rfl, hb17⟩
  rw [F1]
  simp only [Val.cells]
  have N_es := hide (N_es.out.below hb17)
  have N_fs := hide (N_fs.out.below hb17)
  have VS := hide (VS.out.below hb17)
  have N_ndx := hide (N_ndx.out.below hb17)
  have y0 := bat hb17 h_y y0
  have y1 := bat hb17 h_y y1
  have y2 := bat hb17 h_y y2
  have h_y := lt_of_cell y0
  have z0 := bat hb17 h_z z0
  have z1 := bat hb17 h_z z1
  have z2 := bat hb17 h_z z2
  have h_z := lt_of_cell z0
  have bb_w17 := below_trans bb_w16 hb17
  clear hb17 bb_w16
  obtain ⟨w18, hV⟩ : ∃ V, V = w17.alloc (.cells #[.int .i64 pk, .int .i64 pn, .string ps] 41) := ⟨_, rfl⟩
  have u0 : w18.cell? ⟨w17.heap.size, 0, none⟩ = some (.int .i64 pk) := by rw [hV]; simp [go_sem]
  have u1 : w18.cell? ⟨w17.heap.size, 1, none⟩ = some (.int .i64 pn) := by rw [hV]; simp [go_sem]
  have u2 : w18.cell? ⟨w17.heap.size, 2, none⟩ = some (.string ps) := by rw [hV]; simp [go_sem]
  have hbv : Below w17.heap.size w17 w18 := by rw [hV]; exact below_alloc
  go_upto_region 7 with (fail)
  rw [← hV]
  obtain ⟨G_u, hG⟩ : ∃ G, w17.heap.size = G := ⟨_, rfl⟩
  rw [hG] at u0 u1 u2
  rw [hG]
  clear hV hG
  have N_es := hide (N_es.out.below hbv)
  have N_fs := hide (N_fs.out.below hbv)
  have VS := hide (VS.out.below hbv)
  have N_ndx := hide (N_ndx.out.below hbv)
  have y0 := bat hbv h_y y0
  have y1 := bat hbv h_y y1
  have y2 := bat hbv h_y y2
  have h_y := lt_of_cell y0
  have z0 := bat hbv h_z z0
  have z1 := bat hbv h_z z1
  have z2 := bat hbv h_z z2
  have h_z := lt_of_cell z0
  have bb_w18 := below_trans bb_w17 hbv
  clear hbv bb_w17
  have h_u := lt_of_cell u0
  clear N_ndx
  clear F1 l_nax l_nbx l_ncx
  go_wp2_with fail
  refine (both_any 15 (by simp [I64]) _ _ _ _ _ N_es.out _ _ _ _ N_fs.out (by omega) (by omega)).mono ?_
  rintro e w19 ⟨hnd, hb19⟩
  obtain ⟨L4, h_L4⟩ : ∃ q, (es ++ fs) ++ [opNode 15] = q := ⟨_, rfl⟩
  rw [h_L4] at hnd
  obtain ⟨A_L4, c_L4, rfl, hst⟩ := hnd
  have E_L4 := hide h_L4
  have N_L4 := hide hst.inn
  clear h_L4 hst
  have N_es := hide (N_es.out.below hb19)
  have N_fs := hide (N_fs.out.below hb19)
  have VS := hide (VS.out.below hb19)
  have y0 := bat hb19 h_y y0
  have y1 := bat hb19 h_y y1
  have y2 := bat hb19 h_y y2
  have h_y := lt_of_cell y0
  have z0 := bat hb19 h_z z0
  have z1 := bat hb19 h_z z1
  have z2 := bat hb19 h_z z2
  have h_z := lt_of_cell z0
  have u0 := bat hb19 h_u u0
  have u1 := bat hb19 h_u u1
  have u2 := bat hb19 h_u u2
  have h_u := lt_of_cell u0
  have bb_w19 := below_trans bb_w18 hb19
  clear hb19 bb_w18
  have F1 : evalS L4 cols5 vs zs3 = (0, ⟨sk, sn, ss⟩) := by rw [← E_L4.out]; exact X4.out
  go_wp2_with fail
  refine (valueE_any _ _ _ _ L4 N_L4.out (hw.below bb_w19) _ _ _ vs VS.out).mono ?_
  rintro e w20 ⟨rfl, hb20⟩
  rw [F1]
  simp only [Val.cells]
  have N_es := hide (N_es.out.below hb20)
  have N_fs := hide (N_fs.out.below hb20)
  have VS := hide (VS.out.below hb20)
  have N_L4 := hide (N_L4.out.below hb20)
  have y0 := bat hb20 h_y y0
  have y1 := bat hb20 h_y y1
  have y2 := bat hb20 h_y y2
  have h_y := lt_of_cell y0
  have z0 := bat hb20 h_z z0
  have z1 := bat hb20 h_z z1
  have z2 := bat hb20 h_z z2
  have h_z := lt_of_cell z0
  have u0 := bat hb20 h_u u0
  have u1 := bat hb20 h_u u1
  have u2 := bat hb20 h_u u2
  have h_u := lt_of_cell u0
  have bb_w20 := below_trans bb_w19 hb20
  clear hb20 bb_w19
  obtain ⟨w21, hV⟩ : ∃ V, V = w20.alloc (.cells #[.int .i64 sk, .int .i64 sn, .string ss] 41) := ⟨_, rfl⟩
  have t0 : w21.cell? ⟨w20.heap.size, 0, none⟩ = some (.int .i64 sk) := by rw [hV]; simp [go_sem]
  have t1 : w21.cell? ⟨w20.heap.size, 1, none⟩ = some (.int .i64 sn) := by rw [hV]; simp [go_sem]
  have t2 : w21.cell? ⟨w20.heap.size, 2, none⟩ = some (.string ss) := by rw [hV]; simp [go_sem]
  have hbv : Below w20.heap.size w20 w21 := by rw [hV]; exact below_alloc
  go_upto_region 8 with (fail)
  rw [← hV]
  obtain ⟨G_t, hG⟩ : ∃ G, w20.heap.size = G := ⟨_, rfl⟩
  rw [hG] at t0 t1 t2
  rw [hG]
  clear hV hG
  have N_es := hide (N_es.out.below hbv)
  have N_fs := hide (N_fs.out.below hbv)
  have VS := hide (VS.out.below hbv)
  have N_L4 := hide (N_L4.out.below hbv)
  have y0 := bat hbv h_y y0
  have y1 := bat hbv h_y y1
  have y2 := bat hbv h_y y2
  have h_y := lt_of_cell y0
  have z0 := bat hbv h_z z0
  have z1 := bat hbv h_z z1
  have z2 := bat hbv h_z z2
  have h_z := lt_of_cell z0
  have u0 := bat hbv h_u u0
  have u1 := bat hbv h_u u1
  have u2 := bat hbv h_u u2
  have h_u := lt_of_cell u0
  have bb_w21 := below_trans bb_w20 hbv
  clear hbv bb_w20
  have h_t := lt_of_cell t0
  clear N_L4
  clear F1
  go_wp2_with fail
  refine (notE_any _ _ _ _ es N_es.out (by omega)).mono ?_
  rintro e w22 ⟨hnd, hb22⟩
  obtain ⟨nay, h_nay⟩ : ∃ q, es ++ [opNode 2] = q := ⟨_, rfl⟩
  rw [h_nay] at hnd
  obtain ⟨A_nay, c_nay, rfl, hst⟩ := hnd
  have E_nay := hide h_nay
  have N_nay := hide hst.inn
  clear h_nay hst
  have N_es := hide (N_es.out.below hb22)
  have N_fs := hide (N_fs.out.below hb22)
  have VS := hide (VS.out.below hb22)
  have y0 := bat hb22 h_y y0
  have y1 := bat hb22 h_y y1
  have y2 := bat hb22 h_y y2
  have h_y := lt_of_cell y0
  have z0 := bat hb22 h_z z0
  have z1 := bat hb22 h_z z1
  have z2 := bat hb22 h_z z2
  have h_z := lt_of_cell z0
  have u0 := bat hb22 h_u u0
  have u1 := bat hb22 h_u u1
  have u2 := bat hb22 h_u u2
  have h_u := lt_of_cell u0
  have t0 := bat hb22 h_t t0
  have t1 := bat hb22 h_t t1
  have t2 := bat hb22 h_t t2
  have h_t := lt_of_cell t0
  have bb_w22 := below_trans bb_w21 hb22
  clear hb22 bb_w21
  have l_nay : nay.length ≤ 201 := by rw [← E_nay.out]; simp; omega
  go_wp2_with fail
  refine (notE_any _ _ _ _ fs N_fs.out (by omega)).mono ?_
  rintro e w23 ⟨hnd, hb23⟩
  obtain ⟨nby, h_nby⟩ : ∃ q, fs ++ [opNode 2] = q := ⟨_, rfl⟩
  rw [h_nby] at hnd
  obtain ⟨A_nby, c_nby, rfl, hst⟩ := hnd
  have E_nby := hide h_nby
  have N_nby := hide hst.inn
  clear h_nby hst
  have N_es := hide (N_es.out.below hb23)
  have N_fs := hide (N_fs.out.below hb23)
  have VS := hide (VS.out.below hb23)
  have N_nay := hide (N_nay.out.below hb23)
  have y0 := bat hb23 h_y y0
  have y1 := bat hb23 h_y y1
  have y2 := bat hb23 h_y y2
  have h_y := lt_of_cell y0
  have z0 := bat hb23 h_z z0
  have z1 := bat hb23 h_z z1
  have z2 := bat hb23 h_z z2
  have h_z := lt_of_cell z0
  have u0 := bat hb23 h_u u0
  have u1 := bat hb23 h_u u1
  have u2 := bat hb23 h_u u2
  have h_u := lt_of_cell u0
  have t0 := bat hb23 h_t t0
  have t1 := bat hb23 h_t t1
  have t2 := bat hb23 h_t t2
  have h_t := lt_of_cell t0
  have bb_w23 := below_trans bb_w22 hb23
  clear hb23 bb_w22
  have l_nby : nby.length ≤ 201 := by rw [← E_nby.out]; simp; omega
  go_wp2_with fail
  refine (both_any 14 (by simp [I64]) _ _ _ _ _ N_nay.out _ _ _ _ N_nby.out (by omega) (by omega)).mono ?_
  rintro e w24 ⟨hnd, hb24⟩
  obtain ⟨ncy, h_ncy⟩ : ∃ q, (nay ++ nby) ++ [opNode 14] = q := ⟨_, rfl⟩
  rw [h_ncy] at hnd
  obtain ⟨A_ncy, c_ncy, rfl, hst⟩ := hnd
  have E_ncy := hide h_ncy
  have N_ncy := hide hst.inn
  clear h_ncy hst
  have N_es := hide (N_es.out.below hb24)
  have N_fs := hide (N_fs.out.below hb24)
  have VS := hide (VS.out.below hb24)
  have N_nay := hide (N_nay.out.below hb24)
  have N_nby := hide (N_nby.out.below hb24)
  have y0 := bat hb24 h_y y0
  have y1 := bat hb24 h_y y1
  have y2 := bat hb24 h_y y2
  have h_y := lt_of_cell y0
  have z0 := bat hb24 h_z z0
  have z1 := bat hb24 h_z z1
  have z2 := bat hb24 h_z z2
  have h_z := lt_of_cell z0
  have u0 := bat hb24 h_u u0
  have u1 := bat hb24 h_u u1
  have u2 := bat hb24 h_u u2
  have h_u := lt_of_cell u0
  have t0 := bat hb24 h_t t0
  have t1 := bat hb24 h_t t1
  have t2 := bat hb24 h_t t2
  have h_t := lt_of_cell t0
  have bb_w24 := below_trans bb_w23 hb24
  clear hb24 bb_w23
  have l_ncy : ncy.length ≤ 403 := by rw [← E_ncy.out]; simp; omega
  clear N_nay
  clear N_nby
  go_wp2_with fail
  refine (notE_any _ _ _ _ ncy N_ncy.out (by omega)).mono ?_
  rintro e w25 ⟨hnd, hb25⟩
  obtain ⟨ndy, h_ndy⟩ : ∃ q, ncy ++ [opNode 2] = q := ⟨_, rfl⟩
  rw [h_ndy] at hnd
  obtain ⟨A_ndy, c_ndy, rfl, hst⟩ := hnd
  have E_ndy := hide h_ndy
  have N_ndy := hide hst.inn
  clear h_ndy hst
  have N_es := hide (N_es.out.below hb25)
  have N_fs := hide (N_fs.out.below hb25)
  have VS := hide (VS.out.below hb25)
  have N_ncy := hide (N_ncy.out.below hb25)
  have y0 := bat hb25 h_y y0
  have y1 := bat hb25 h_y y1
  have y2 := bat hb25 h_y y2
  have h_y := lt_of_cell y0
  have z0 := bat hb25 h_z z0
  have z1 := bat hb25 h_z z1
  have z2 := bat hb25 h_z z2
  have h_z := lt_of_cell z0
  have u0 := bat hb25 h_u u0
  have u1 := bat hb25 h_u u1
  have u2 := bat hb25 h_u u2
  have h_u := lt_of_cell u0
  have t0 := bat hb25 h_t t0
  have t1 := bat hb25 h_t t1
  have t2 := bat hb25 h_t t2
  have h_t := lt_of_cell t0
  have bb_w25 := below_trans bb_w24 hb25
  clear hb25 bb_w24
  clear N_ncy
  have F1 : evalS ndy cols5 vs zs3 = (0, ⟨sk, sn, ss⟩) := by rw [← E_ndy.out, ← E_ncy.out, ← E_nay.out, ← E_nby.out]; exact X5.out
  go_wp2_with fail
  refine (valueE_any _ _ _ _ ndy N_ndy.out (hw.below bb_w25) _ _ _ vs VS.out).mono ?_
  rintro e w26 ⟨rfl, hb26⟩
  rw [F1]
  simp only [Val.cells]
  have N_es := hide (N_es.out.below hb26)
  have N_fs := hide (N_fs.out.below hb26)
  have VS := hide (VS.out.below hb26)
  have N_ndy := hide (N_ndy.out.below hb26)
  have y0 := bat hb26 h_y y0
  have y1 := bat hb26 h_y y1
  have y2 := bat hb26 h_y y2
  have h_y := lt_of_cell y0
  have z0 := bat hb26 h_z z0
  have z1 := bat hb26 h_z z1
  have z2 := bat hb26 h_z z2
  have h_z := lt_of_cell z0
  have u0 := bat hb26 h_u u0
  have u1 := bat hb26 h_u u1
  have u2 := bat hb26 h_u u2
  have h_u := lt_of_cell u0
  have t0 := bat hb26 h_t t0
  have t1 := bat hb26 h_t t1
  have t2 := bat hb26 h_t t2
  have h_t := lt_of_cell t0
  have bb_w26 := below_trans bb_w25 hb26
  clear hb26 bb_w25
  obtain ⟨w27, hV⟩ : ∃ V, V = w26.alloc (.cells #[.int .i64 sk, .int .i64 sn, .string ss] 41) := ⟨_, rfl⟩
  have r0 : w27.cell? ⟨w26.heap.size, 0, none⟩ = some (.int .i64 sk) := by rw [hV]; simp [go_sem]
  have r1 : w27.cell? ⟨w26.heap.size, 1, none⟩ = some (.int .i64 sn) := by rw [hV]; simp [go_sem]
  have r2 : w27.cell? ⟨w26.heap.size, 2, none⟩ = some (.string ss) := by rw [hV]; simp [go_sem]
  have hbv : Below w26.heap.size w26 w27 := by rw [hV]; exact below_alloc
  go_upto_region 9 with (fail)
  rw [← hV]
  obtain ⟨G_r, hG⟩ : ∃ G, w26.heap.size = G := ⟨_, rfl⟩
  rw [hG] at r0 r1 r2
  rw [hG]
  clear hV hG
  have N_es := hide (N_es.out.below hbv)
  have N_fs := hide (N_fs.out.below hbv)
  have VS := hide (VS.out.below hbv)
  have N_ndy := hide (N_ndy.out.below hbv)
  have y0 := bat hbv h_y y0
  have y1 := bat hbv h_y y1
  have y2 := bat hbv h_y y2
  have h_y := lt_of_cell y0
  have z0 := bat hbv h_z z0
  have z1 := bat hbv h_z z1
  have z2 := bat hbv h_z z2
  have h_z := lt_of_cell z0
  have u0 := bat hbv h_u u0
  have u1 := bat hbv h_u u1
  have u2 := bat hbv h_u u2
  have h_u := lt_of_cell u0
  have t0 := bat hbv h_t t0
  have t1 := bat hbv h_t t1
  have t2 := bat hbv h_t t2
  have h_t := lt_of_cell t0
  have bb_w27 := below_trans bb_w26 hbv
  clear hbv bb_w26
  have h_r := lt_of_cell r0
  clear N_ndy
  clear F1 l_nay l_nby l_ncy
  have q1 : (ps == ps) = true := by rw [same_bytes]; simp
  have q2 : (ss == ss) = true := by rw [same_bytes]; simp
  clear N_es N_fs VS
  go_wp2_with fail
  refine (known_any _ (hw.below bb_w27)).mono ?_
  rintro e w99 ⟨rfl, hb99⟩
  go_wp2
  all_goals (try (exfalso; go_light; simp_all; done))
  go_ret
  exact ⟨rfl, below_trans bb_w27 hb99⟩
end Go.Proofs.YtmnhahilbbnkkaaGreatDoor

namespace Go.Proofs.YtmnhahilbbnkkaaGreatDoor
open Go.RowKit
set_option linter.unusedSimpArgs false
set_option linter.unusedVariables false

theorem str_info : (Tryz.prog.info? 9).map (fun i => (i.zero, i.size, i.bytes)) = some (some (.string ⟨#[]⟩), 1, 16) := by kernel_rfl
theorem name1_in (W : World) (s : ByteArray) (hs : Str s) : In (W.alloc (.cells #[.string s] 9)) (some ⟨W.heap.size, 0, none⟩) 1 1 [s] :=
  (Stk.at_ (n := 1) (B := 0) (xs := [s]) (heap_alloc_new W _) rfl (by intro x hx; simp at hx; subst hx; exact hs) (Nat.zero_le _) rfl (by omega)).inn
theorem In.from_ {β : Type} [Rep β] {w : World} {A : Option Addr} {n c k : Nat} {xs : List β} (h : In w A n c xs) (hk : k ≤ n) : In w (if c = k then A else A.map (·.add (k * Rep.size β))) (n - k) (c - k) (xs.drop k) := Sl.from_ h hk
theorem Stk.typed {α : Type} [Flat α] {B : Nat} {w : World} {e : TypeId} {A : Option Addr} {c : Nat} {xs : List α} (h : Stk B w e A c xs) : Sl w (fun q => TyAt w e q) A xs.length c xs := by
  obtain ⟨A', c', hv, hs, _⟩ := sl_of_own (S := fun _ => False) (T := fun q => TyAt w e q) h.own (cells_flat w _ h.ok) (fun _ hk => hk.elim) rfl (fun g _ hg => hg)
  injection hv with h1 _ h3
  subst h1 h3
  exact hs
/-- A slice whose block is known by its elements' type. -/
def SlT {α : Type} [Rep α] (w : World) (T : TypeId) (A : Option Addr) (n c : Nat) (xs : List α) : Prop := Sl w (fun q => TyAt w T q) A n c xs
section
variable {α : Type} [Rep α] {w w' : World} {T : TypeId} {A : Option Addr} {n c : Nat} {xs : List α}
theorem SlT.inn (h : SlT w T A n c xs) : In w A n c xs := In.of_sl h fun _ hk => hk.lt
theorem SlT.below (h : SlT w T A n c xs) (hb : Below w.heap.size w w') : SlT w' T A n c xs := (Sl.keep (fun k hk => hb.block k (TyAt.lt hk)) h).mono fun _ hk => TyAt.below hk hb
theorem SlT.set (h : SlT w T A n c xs) {g : Nat} {T2 : TypeId} (hg : TyAt w T2 g) (hne : T ≠ T2) (o : Nat) (v : Value) : SlT (w.setCell ⟨g, o, none⟩ v) T A n c xs :=
  (Sl.keep (fun k hk => by
    have hkg : ¬ g = k := fun e => (TyAt.ne hk hg hne) e.symm
    simp [World.setCell, Array.getElem?_modify, hkg]) h).mono fun _ hk => TyAt.set hk g o v
end
/-- What Add gives. -/
def Added (w' : World) (e : Ending) (n : Nat) (l : List ByteArray) (name : ByteArray) : Prop := ∃ A' n' c' ys, e = .returned (.slice A' n' c') ∧ SlT w' 9 A' n' c' ys ∧ n' ≤ n + 1 ∧ name ∈ ys ∧ ∀ x ∈ l, x ∈ ys
set_option maxHeartbeats 2000000 in
set_option maxRecDepth 100000 in
theorem addN_any (w : World) (A : Option Addr) (n c : Nat) (l : List ByteArray) (hx0 : SlT w 9 A n c l) (name : ByteArray) (hs : Str name) (hn : n ≤ 4096) :
    Calls Tryz.prog 41 #[.slice A n c, .string name] w fun e w' => Added w' e n l name ∧ Below w.heap.size w w' := by
  obtain ⟨i0, hi, hz0, hz1, hz2⟩ := info_parts str_info
  have hx := hx0.inn
  have h63 := hx.cap
  have hlen := hide hx.len
  go_enter Tryz.func41, Tryz.ntmps41
  go_wp2
  go_loop [5] (fun i => ∃ k : Nat, k ≤ n ∧ i = .int .i64 k) (fun i => n - (intOf i).toNat)
  case atStart => exact ⟨0, Nat.zero_le _, rfl⟩
  case round =>
    obtain ⟨k, hk, rfl⟩ := hrel
    have k0 : (0 : Int) ≤ (k : Int) := by omega
    have k1 : (k : Int) ≤ (c : Int) := by omega
    have k2 : (k : Int) ≤ (n : Int) := by omega
    have k3 : (n : Int) ≤ (c : Int) := by omega
    have ht : (l.take k).length = k := by rw [List.length_take, hlen.out]; omega
    have ht1 : (l.take k ++ [name]).length = k + 1 := by rw [List.length_append, ht]; rfl
    have hy : Hid (∀ x ∈ l, x ∈ (l.take k ++ [name]) ++ l.drop k) := hide (by
      intro x hx
      have : x ∈ l.take k ++ l.drop k := by rw [List.take_append_drop]; exact hx
      rcases List.mem_append.1 this with h | h
      · exact List.mem_append.2 (.inl (List.mem_append.2 (.inl h)))
      · exact List.mem_append.2 (.inr h))
    have HT := hide ht
    have HT1 := hide ht1
    clear ht ht1
    by_cases hlt : k < n
    · obtain ⟨b, off, x, rfl, hB, HX, e0, e1⟩ := hx.str hlt
      cases hz : Op.bytesLess x.toList name.toList
      · cases hq : (x.toList == name.toList)
        · have hck : ¬ c = k := by omega
          have hfr : Hid (In w (some ⟨b, off + k, none⟩) (n - k) (c - k) (l.drop k)) := hide (by
            have h := hx.from_ hk
            rw [if_neg hck] at h
            simp only [Option.map_some, add_at] at h
            have e : Rep.size ByteArray = 1 := rfl
            rw [e, Nat.mul_one] at h
            exact h)
          have hA := hide (hx.take hk)
          go_wp2_with (first
            | (at_builtin; refine wpList_cat (α := ByteArray) _ rfl (.const (.slice none 0 0)) (.tmp 36) 50 rfl w.heap.size 9 i0 _ 16 Tryz.underlying50 hi hz0 hz1 hz2 rfl (by decide) none 0 0 [] (Stk.nil_ _ _ _) rfl rfl (some ⟨b, off, none⟩) k c (l.take k) hA.out rfl (by omega) (Nat.le_refl _) ?_; intro A1 c1 w1 hst1 hb1 _ hs1; rw [List.nil_append] at hst1)
            | (at_builtin; refine wpList_cat (α := ByteArray) _ rfl (.tmp 37) (.tmp 39) 50 rfl w.heap.size 9 i0 _ 16 Tryz.underlying50 hi hz0 hz1 hz2 rfl (by decide) A1 k c1 (l.take k) (hst1.keep below_alloc) HT.out rfl (some ⟨w1.heap.size, 0, none⟩) 1 1 [name] (name1_in w1 name hs) rfl (by omega) (by simp; omega) ?_; intro A2 c2 w2 hst2 hb2 _ hs2)
            | (at_builtin; refine wpList_cat (α := ByteArray) _ rfl (.tmp 41) (.tmp 45) 50 rfl w.heap.size 9 i0 _ 16 Tryz.underlying50 hi hz0 hz1 hz2 rfl (by decide) A2 (k + 1) c2 (l.take k ++ [name]) hst2 HT1.out rfl _ (n - k) (c - k) (l.drop k) (hfr.out.below ((hb1.trans ((Below.refl _ _).alloc (by omega) _)).trans hb2)) rfl (by omega) (by simp at hs2; omega) ?_; intro A3 c3 w3 hst3 hb3 _ hs3)
            | (at_builtin; refine wpList_cat (α := ByteArray) _ rfl (.tmp 41) (.tmp 44) 50 rfl w.heap.size 9 i0 _ 16 Tryz.underlying50 hi hz0 hz1 hz2 rfl (by decide) A2 (k + 1) c2 (l.take k ++ [name]) hst2 HT1.out rfl _ (n - k) (c - k) (l.drop k) (hfr.out.below ((hb1.trans ((Below.refl _ _).alloc (by omega) _)).trans hb2)) rfl (by omega) (by simp at hs2; omega) ?_; intro A3 c3 w3 hst3 hb3 _ hs3))
          go_ret
          have hl3 : ((l.take k ++ [name]) ++ l.drop k).length = k + 1 + (n - k) := by rw [List.length_append, HT1.out, List.length_drop, hlen.out]
          exact ⟨⟨A3, _, c3, _, rfl, by have h := hst3.typed; rw [hl3] at h; exact h, by omega, by simp, hy.out⟩, ((hb1.trans ((Below.refl _ _).alloc (by omega) _)).trans hb2).trans hb3⟩
        · have hxe : Hid (x = name) := hide (byteArray_eq (eq_of_beq hq))
          go_wp2
          go_ret
          exact ⟨⟨_, _, _, l, rfl, hx0, by omega, by rw [← hxe.out]; exact List.mem_of_getElem? (drop_get HX.out).1, fun x h => h⟩, Below.refl _ _⟩
      · go_wp2
        go_round
        case rel => exact ⟨k + 1, by omega, by go_num⟩
        case measure => simp [intOf]; omega
    · have hkn : n = k := by omega
      subst hkn
      have hfr : Hid (In w (if c = n then A else A.map (·.add (n * Rep.size ByteArray))) (n - n) (c - n) (l.drop n)) := hide (hx.from_ (Nat.le_refl _))
      have hA := hide (hx.take hk)
      cases A with
      | none =>
        obtain rfl : c = 0 := hx.2.2.2.1 rfl
        obtain rfl : n = 0 := by omega
        have hfr : Hid (In w none 0 0 (l.drop 0)) := hfr
        go_wp2_with (first
          | (at_builtin; refine wpList_cat (α := ByteArray) _ rfl (.const (.slice none 0 0)) (.tmp 36) 50 rfl w.heap.size 9 i0 _ 16 Tryz.underlying50 hi hz0 hz1 hz2 rfl (by decide) none 0 0 [] (Stk.nil_ _ _ _) rfl rfl none 0 0 (l.take 0) hA.out rfl (by omega) (Nat.le_refl _) ?_; intro A1 c1 w1 hst1 hb1 _ hs1; rw [List.nil_append] at hst1)
          | (at_builtin; refine wpList_cat (α := ByteArray) _ rfl (.tmp 37) (.tmp 39) 50 rfl w.heap.size 9 i0 _ 16 Tryz.underlying50 hi hz0 hz1 hz2 rfl (by decide) A1 0 c1 (l.take 0) (hst1.keep below_alloc) HT.out rfl (some ⟨w1.heap.size, 0, none⟩) 1 1 [name] (name1_in w1 name hs) rfl (by omega) (by simp; omega) ?_; intro A2 c2 w2 hst2 hb2 _ hs2)
          | (at_builtin; refine wpList_cat (α := ByteArray) _ rfl (.tmp 41) (.tmp 44) 50 rfl w.heap.size 9 i0 _ 16 Tryz.underlying50 hi hz0 hz1 hz2 rfl (by decide) A2 1 c2 (l.take 0 ++ [name]) hst2 HT1.out rfl _ 0 0 (l.drop 0) (hfr.out.below ((hb1.trans ((Below.refl _ _).alloc (by omega) _)).trans hb2)) rfl (by omega) (by simp at hs2; omega) ?_; intro A3 c3 w3 hst3 hb3 _ hs3))
        go_ret
        have hl3 : ((l.take 0 ++ [name]) ++ l.drop 0).length = 1 + 0 := by rw [List.length_append, HT1.out, List.length_drop, hlen.out]; all_goals omega
        exact ⟨⟨A3, _, c3, _, rfl, by have h := hst3.typed; rw [hl3] at h; exact h, by omega, by simp, hy.out⟩, ((hb1.trans ((Below.refl _ _).alloc (by omega) _)).trans hb2).trans hb3⟩
      | some a =>
        by_cases hck : c = n
        · rw [if_pos hck] at hfr
          subst hck
          rw [Nat.sub_self] at hfr
          go_wp2_with (first
            | (at_builtin; refine wpList_cat (α := ByteArray) _ rfl (.const (.slice none 0 0)) (.tmp 36) 50 rfl w.heap.size 9 i0 _ 16 Tryz.underlying50 hi hz0 hz1 hz2 rfl (by decide) none 0 0 [] (Stk.nil_ _ _ _) rfl rfl (some a) c c (l.take c) hA.out rfl (by omega) (Nat.le_refl _) ?_; intro A1 c1 w1 hst1 hb1 _ hs1; rw [List.nil_append] at hst1)
            | (at_builtin; refine wpList_cat (α := ByteArray) _ rfl (.tmp 37) (.tmp 39) 50 rfl w.heap.size 9 i0 _ 16 Tryz.underlying50 hi hz0 hz1 hz2 rfl (by decide) A1 c c1 (l.take c) (hst1.keep below_alloc) HT.out rfl (some ⟨w1.heap.size, 0, none⟩) 1 1 [name] (name1_in w1 name hs) rfl (by omega) (by simp; omega) ?_; intro A2 c2 w2 hst2 hb2 _ hs2)
            | (at_builtin; refine wpList_cat (α := ByteArray) _ rfl (.tmp 41) (.tmp 44) 50 rfl w.heap.size 9 i0 _ 16 Tryz.underlying50 hi hz0 hz1 hz2 rfl (by decide) A2 (c + 1) c2 (l.take c ++ [name]) hst2 HT1.out rfl _ 0 0 (l.drop c) (hfr.out.below ((hb1.trans ((Below.refl _ _).alloc (by omega) _)).trans hb2)) rfl (by omega) (by simp at hs2; omega) ?_; intro A3 c3 w3 hst3 hb3 _ hs3))
          go_ret
          have hl3 : ((l.take c ++ [name]) ++ l.drop c).length = (c + 1) + 0 := by rw [List.length_append, HT1.out, List.length_drop, hlen.out]; all_goals omega
          exact ⟨⟨A3, _, c3, _, rfl, by have h := hst3.typed; rw [hl3] at h; exact h, by omega, by simp, hy.out⟩, ((hb1.trans ((Below.refl _ _).alloc (by omega) _)).trans hb2).trans hb3⟩
        · rw [if_neg hck] at hfr
          have e : Rep.size ByteArray = 1 := rfl
          rw [e, Nat.mul_one, Nat.sub_self] at hfr
          simp only [Option.map_some] at hfr
          go_wp2_with (first
            | (at_builtin; refine wpList_cat (α := ByteArray) _ rfl (.const (.slice none 0 0)) (.tmp 36) 50 rfl w.heap.size 9 i0 _ 16 Tryz.underlying50 hi hz0 hz1 hz2 rfl (by decide) none 0 0 [] (Stk.nil_ _ _ _) rfl rfl (some a) n c (l.take n) hA.out rfl (by omega) (Nat.le_refl _) ?_; intro A1 c1 w1 hst1 hb1 _ hs1; rw [List.nil_append] at hst1)
            | (at_builtin; refine wpList_cat (α := ByteArray) _ rfl (.tmp 37) (.tmp 39) 50 rfl w.heap.size 9 i0 _ 16 Tryz.underlying50 hi hz0 hz1 hz2 rfl (by decide) A1 n c1 (l.take n) (hst1.keep below_alloc) HT.out rfl (some ⟨w1.heap.size, 0, none⟩) 1 1 [name] (name1_in w1 name hs) rfl (by omega) (by simp; omega) ?_; intro A2 c2 w2 hst2 hb2 _ hs2)
            | (at_builtin; refine wpList_cat (α := ByteArray) _ rfl (.tmp 41) (.tmp 44) 50 rfl w.heap.size 9 i0 _ 16 Tryz.underlying50 hi hz0 hz1 hz2 rfl (by decide) A2 (n + 1) c2 (l.take n ++ [name]) hst2 HT1.out rfl _ 0 (c - n) (l.drop n) (hfr.out.below ((hb1.trans ((Below.refl _ _).alloc (by omega) _)).trans hb2)) rfl (by omega) (by simp at hs2; omega) ?_; intro A3 c3 w3 hst3 hb3 _ hs3))
          go_ret
          have hl3 : ((l.take n ++ [name]) ++ l.drop n).length = (n + 1) + 0 := by rw [List.length_append, HT1.out, List.length_drop, hlen.out]; all_goals omega
          exact ⟨⟨A3, _, c3, _, rfl, by have h := hst3.typed; rw [hl3] at h; exact h, by omega, by simp, hy.out⟩, ((hb1.trans ((Below.refl _ _).alloc (by omega) _)).trans hb2).trans hb3⟩
set_option maxHeartbeats 2000000 in
set_option maxRecDepth 100000 in
theorem colsR_any (w : World) (A : Option Addr) (n c : Nat) (es : List Node) (hx : In w A n c es) (hn : n ≤ 4000) :
    Calls Tryz.prog 21 #[.slice A n c] w fun e w' => (∃ A' n' c' ys, e = .returned (.slice A' n' c') ∧ SlT w' 9 A' n' c' ys ∧ ∀ x ∈ es, x.op = 1 → x.name ∈ ys) ∧ Below w.heap.size w w' := by
  have h63 := hx.le
  go_enter Tryz.func21, Tryz.ntmps21
  go_wp2
  go_loopw [3, 4] (fun v i wr => ∃ (k d : Nat) (A' : Option Addr) (c' : Nat) (ys : List ByteArray), k ≤ n ∧ d ≤ k ∧ i = .int .i64 k ∧ v = .slice A' d c' ∧ SlT wr 9 A' d c' ys ∧ (∀ x ∈ es.take k, x.op = 1 → x.name ∈ ys) ∧ Below w.heap.size w wr) (fun _ i _ => n - (intOf i).toNat)
  case atStart => exact ⟨0, 0, none, 0, [], Nat.zero_le _, Nat.zero_le _, rfl, rfl, Sl.nil_, (fun x hx => by cases hx), Below.refl _ _⟩
  case round =>
    obtain ⟨k, d, A', c', ys, hk, hd, rfl, rfl, hin, hall, hb⟩ := hrel
    have HIN := hide hin
    have HALL := hide hall
    clear hin hall
    by_cases hlt : k < n
    · obtain ⟨b, off, x, rfl, hB, HX, f0, f1, f2, f3, f4, f5, hok⟩ := (hx.below hb).node hlt
      have HT : Hid (es.take (k + 1) = es.take k ++ [x]) := hide (by rw [List.take_add_one, (drop_get HX.out).1]; rfl)
      by_cases h1 : x.op = 1
      · have hs : Str x.name := hok.2.2.1
        go_wp2_with fail
        refine (addN_any _ _ _ _ ys HIN.out x.name hs (by omega)).mono ?_
        rintro e w2 ⟨⟨A2, d2, c2, zs, rfl, hin2, hd2, hm, hsub⟩, hb2⟩
        have HI2 := hide hin2
        have HN : Hid (∀ y ∈ es.take (k + 1), y.op = 1 → y.name ∈ zs) := hide (by
          rw [HT.out]
          intro y hy h
          rcases List.mem_append.1 hy with hy | hy
          · exact hsub _ (HALL.out y hy h)
          · simp at hy; subst hy; exact hm)
        have hbb := below_trans hb hb2
        clear hin2 hm hsub
        go_wp2
        go_roundw
        case rel => exact ⟨k + 1, d2, A2, c2, zs, by omega, by omega, by go_num, rfl, HI2.out, HN.out, hbb⟩
        case measure => simp [intOf]; omega
      · have HN : Hid (∀ y ∈ es.take (k + 1), y.op = 1 → y.name ∈ ys) := hide (by
          rw [HT.out]
          intro y hy h
          rcases List.mem_append.1 hy with hy | hy
          · exact HALL.out y hy h
          · simp at hy; subst hy; exact absurd h h1)
        have q : (x.op == 1) = false := by simpa using h1
        go_wp2
        go_roundw
        case rel => exact ⟨k + 1, d, A', c', ys, by omega, by omega, by go_num, rfl, HIN.out, HN.out, hb⟩
        case measure => simp [intOf]; omega
    · have HE : Hid (∀ y ∈ es, y.op = 1 → y.name ∈ ys) := hide (by
        have h := HALL.out
        rw [List.take_of_length_le (by rw [hx.len]; omega)] at h
        exact h)
      go_wp2
      go_ret
      exact ⟨⟨A', d, c', ys, rfl, HIN.out, HE.out⟩, hb⟩

/-! ### A row of the call's own, a value of which is written -/
def RowAt (w : World) (g off : Nat) (vs : List Val) : Prop := ∀ i, (h : i < vs.length) → At w (fun _ => False) g (off + i * 3) (vs[i]'h)
theorem RowAt.below {w w' : World} {g off : Nat} {vs : List Val} (h : RowAt w g off vs) (hg : g < w.heap.size) (hb : Below w.heap.size w w') : RowAt w' g off vs := fun i hi => by
  obtain ⟨cs, hr, hc⟩ := h i hi
  exact ⟨cs, hr, fun j hj => bat hb hg (hc j hj)⟩
theorem RowAt.of_sl {w : World} {S : Nat → Prop} {b off n c : Nat} {vs : List Val} (h : Sl w S (some ⟨b, off, none⟩) n c vs) : RowAt w b off vs := fun i hi => by
  obtain ⟨b', off', e, hb, hc⟩ := h.2.2.2.2 (by have := h.1; omega)
  injection e with e
  injection e with e1 e2
  subst e1 e2
  obtain ⟨cs, hr, hc⟩ := hc i hi
  exact ⟨cs, hr, hc⟩
theorem RowAt.sl {w : World} {S : Nat → Prop} {b off n c : Nat} {vs : List Val} (h : RowAt w b off vs) (hl : vs.length = n) (hc : n ≤ c) (hm : c ≤ 9223372036854775807) (hS : S b) : Sl w S (some ⟨b, off, none⟩) n c vs :=
  ⟨hl, hc, hm, (fun e => by cases e), fun _ => ⟨b, off, rfl, hS, fun i hi => (h i hi).mono fun _ q => q.elim⟩⟩
theorem RowAt.cells {w : World} {g off : Nat} {vs : List Val} (h : RowAt w g off vs) {i : Nat} (hi : i < vs.length) :
    w.cell? ⟨g, off + i * 3, none⟩ = some (.int .i64 (vs[i]'hi).kind) ∧ w.cell? ⟨g, off + i * 3 + 1, none⟩ = some (.int .i64 (vs[i]'hi).num) ∧ w.cell? ⟨g, off + i * 3 + 2, none⟩ = some (.string (vs[i]'hi).str) ∧ (vs[i]'hi).ok := by
  obtain ⟨cs, ⟨rfl, hv⟩, hc⟩ := h i hi
  exact ⟨hc 0 (by simp [Val.cells]), hc 1 (by simp [Val.cells]), hc 2 (by simp [Val.cells]), hv⟩
theorem RowAt.set {w : World} {g off : Nat} {vs : List Val} (h : RowAt w g off vs) {i : Nat} (hi : i < vs.length) {v : Val} (hv : v.ok) :
    RowAt (((w.setCell ⟨g, off + i * 3, none⟩ (.int .i64 v.kind)).setCell ⟨g, off + i * 3 + 1, none⟩ (.int .i64 v.num)).setCell ⟨g, off + i * 3 + 2, none⟩ (.string v.str)) g off (vs.set i v) := fun k hk => by
  rw [List.length_set] at hk
  obtain ⟨h0, h1, h2, _⟩ := h.cells hi
  by_cases he : i = k
  · subst he
    rw [List.getElem_set_self]
    refine ⟨v.cells, ⟨rfl, hv⟩, fun j hj => ?_⟩
    have hj3 : j < 3 := hj
    obtain rfl | rfl | rfl : j = 0 ∨ j = 1 ∨ j = 2 := by omega
    · exact set_far (set_far (set_same h0) (.inr (by omega))) (.inr (by omega))
    · exact set_far (set_same (set_far h1 (.inr (by omega)))) (.inr (by omega))
    · exact set_same (set_far (set_far h2 (.inr (by omega))) (.inr (by omega)))
  · rw [List.getElem_set_ne he]
    obtain ⟨cs, ⟨rfl, hr⟩, hc⟩ := h k hk
    refine ⟨_, ⟨rfl, hr⟩, fun j hj => ?_⟩
    have hj3 : j < 3 := hj
    exact set_far (set_far (set_far (hc j hj) (.inr (by omega))) (.inr (by omega))) (.inr (by omega))
/-- A row whose values come out of two rows that fit, fits. -/
theorem rowErr_mix {cols : List Col} {a b x : List Val} (ha : rowErr cols a = 0) (hb : rowErr cols b = 0) (hx : x.length = cols.length) (h : ∀ i : Nat, x[i]? = a[i]? ∨ x[i]? = b[i]?) : rowErr cols x = 0 := by
  have la := row_len ha
  have lb := row_len hb
  rw [rowErr, if_neg (by omega)]
  refine firstErr_none 0 fun i hi => ?_
  simp only [Nat.zero_add]
  rcases h i with h | h
  · exact row_cell ha (by rw [← h, List.getElem?_eq_getElem hi])
  · exact row_cell hb (by rw [← h, List.getElem?_eq_getElem hi])
end Go.Proofs.YtmnhahilbbnkkaaGreatDoor

namespace Go.Proofs.YtmnhahilbbnkkaaGreatDoor
open Go.RowKit
set_option linter.unusedSimpArgs false
set_option linter.unusedVariables false

/-- The second row while the first's values are copied into it: the first k columns are done, and of column k the first j names. -/
structure Mixed (avs b0 us : List Val → Prop) : Prop where
  t : True
def Mix (avs b0 x : List Val) (us : List ByteArray) (k : Nat) : Prop :=
  x.length = 5 ∧ (∀ i : Nat, x[i]? = avs[i]? ∨ x[i]? = b0[i]?) ∧ ∀ i : Nat, i < k → (h : i < cols5.length) → (cols5[i]'h).name ∈ us → x[i]? = avs[i]?
theorem indexFrom_name (name : ByteArray) : ∀ (l : List Col) (k i : Nat) (c : Col), indexFrom name k l = ((k + i : Nat) : Int) → l[i]? = some c → c.name = name
  | [], _, _, _, _, h => by simp at h
  | x :: l, k, i, c, h, hc => by
    rw [indexFrom] at h
    split at h
    · rename_i q
      obtain rfl : i = 0 := by omega
      simp at hc
      subst hc
      exact byteArray_eq (eq_of_beq q)
    · match i, h, hc with
      | 0, h, _ =>
        rcases indexFrom_range name l (k + 1) with q | ⟨q, _⟩ <;> omega
      | i + 1, h, hc =>
        exact indexFrom_name name l (k + 1) i c (by rw [h]; congr 1; omega) (by simpa using hc)
theorem Mix.step {avs b0 x : List Val} {us : List ByteArray} {k : Nat} (h : Mix avs b0 x us k) (hk : (h : k < cols5.length) → (cols5[k]'h).name ∈ us → x[k]? = avs[k]?) : Mix avs b0 x us (k + 1) :=
  ⟨h.1, h.2.1, fun i hi hl hm => by
    by_cases e : i = k
    · subst e; exact hk hl hm
    · exact h.2.2 i (by omega) hl hm⟩
theorem Mix.set {avs b0 x : List Val} {us : List ByteArray} {k : Nat} (h : Mix avs b0 x us k) {v : Val} (hv : avs[k]? = some v) : Mix avs b0 (x.set k v) us k := by
  refine ⟨by rw [List.length_set]; exact h.1, fun i => ?_, fun i hi hl hm => ?_⟩
  · by_cases e : i = k
    · subst e
      by_cases hx : i < x.length
      · exact .inl (by rw [List.getElem?_set_self hx, hv])
      · rw [List.set_eq_of_length_le (by omega)]; exact h.2.1 i
    · rw [List.getElem?_set_ne (fun q => e q.symm)]; exact h.2.1 i
  · rw [List.getElem?_set_ne (by omega)]; exact h.2.2 i hi hl hm
set_option maxHeartbeats 8000000 in
set_option maxRecDepth 100000 in
theorem lawDepends_any (w : World) (hw : Words w) (A : Option Addr) (n c : Nat) (l : List Int) (hl : In w A n c l) (A1 : Option Addr) (n1 c1 : Nat) (l1 : List Int) (hl1 : In w A1 n1 c1 l1) (A2 : Option Addr) (n2 c2 : Nat) (l2 : List Int) (hl2 : In w A2 n2 c2 l2) (m : Int) :
    Calls Tryz.prog 7 #[.slice A n c, .slice A1 n1 c1, .slice A2 n2 c2, .int .i64 m] w fun e w' => e = .returned (.bool true) ∧ Below w.heap.size w w' := by
  obtain ⟨v1, hv1, hv10, hv11⟩ := and_ex m 3 (by omega)
  have hv1' : bits BinOp.and IntKind.i64 m 3 = v1 := hv1
  obtain ⟨kd, hkd, hkw⟩ := wr_ (v := 1 + v1) (by omega)
  have hk0 : 1 ≤ kd := by omega
  have hk1 : kd ≤ 4 := by omega
  obtain ⟨v2, hv2, hv20, hv21⟩ := and_ex (m / 4) 15 (by omega)
  have hv2' : bits BinOp.and IntKind.i64 (m / 4) 15 = v2 := hv2
  obtain ⟨v3, hv3, hv30, hv31⟩ := and_ex (m / 64) 15 (by omega)
  have hv3' : bits BinOp.and IntKind.i64 (m / 64) 15 = v3 := hv3
  obtain ⟨v4, hv4, hv40, hv41⟩ := and_ex (m / 1024) 15 (by omega)
  have hv4' : bits BinOp.and IntKind.i64 (m / 1024) 15 = v4 := hv4
  clear hkd hv1 hv2 hv3 hv4
  go_enter Tryz.func7, Tryz.ntmps7
  go_wp2_with fail
  refine (columns_any _).mono ?_
  rintro e w1 ⟨⟨rfl, hc1⟩, hb1⟩
  go_wp2_with fail
  refine (expr5 3 (by omega) 3 rfl kd hk0 hk1 v2 hv20 (by omega) _ _ _ _ hc1 _ _ _ l (hl.below hb1)).mono ?_
  rintro e w2 ⟨⟨es, ⟨Ae, ce, rfl, hst⟩, hok⟩, hb2⟩
  have NE := hide hst.inn
  have HO := hide hok
  have bb2 := below_trans hb1 hb2
  clear hst hok hb1 hb2 hc1
  go_wp2_with fail
  refine (columns_any _).mono ?_
  rintro e w3 ⟨⟨rfl, hc3⟩, hb3⟩
  have bb3 := below_trans bb2 hb3
  have NE := hide (NE.out.below hb3)
  clear bb2 hb3
  go_wp2_with fail
  refine (row5 _ _ _ _ _ _ l1 hc3 (hl1.below bb3) v3 hv30 (by omega)).mono ?_
  rintro e w4 ⟨⟨Aa, ca, avs, rfl, ha, hra⟩, hb4⟩
  have bb4 := below_trans bb3 hb4
  have NE := hide (NE.out.below hb4)
  have HA := hide ha
  have HRA := hide hra
  clear bb3 hb4 hc3 ha hra
  go_wp2_with fail
  refine (columns_any _).mono ?_
  rintro e w5 ⟨⟨rfl, hc5⟩, hb5⟩
  have bb5 := below_trans bb4 hb5
  have NE := hide (NE.out.below hb5)
  have HA := hide (HA.out.below hb5)
  clear bb4 hb5
  go_wp2_with fail
  refine (row_any _ _ _ _ _ _ _ cols5 l2 hc5 cols5_cgood (hl2.below bb5) v4 hv40 (by omega) (by omega)).mono ?_
  rintro e w6 ⟨⟨Ab, cb, b0, rfl, hsb, hrb⟩, hb6⟩
  have b56 := hide hb6
  have HRB := hide hrb
  obtain ⟨g, ob, rfl, ⟨hg5, hty⟩, _⟩ := hsb.2.2.2.2 (by omega)
  have hcb : 5 ≤ cb ∧ cb ≤ 9223372036854775807 := ⟨hsb.2.1, hsb.2.2.1⟩
  have hlb := hsb.1
  have RB := hide (RowAt.of_sl hsb)
  have TY := hide hty
  clear hsb hb6 hrb hc5 hty
  go_wp2_with fail
  refine (colsR_any _ _ _ _ es (NE.out.below b56.out) (by have := HO.out.length; exact Nat.le_trans this (by decide))).mono ?_
  rintro e w7 ⟨⟨Au, nu, cu, us, rfl, hu, hnames⟩, hb7⟩
  have b57 := hide (below_trans b56.out hb7)
  have RB := hide (RB.out.below TY.out.lt hb7)
  have TY := hide (TY.out.below hb7)
  have HU := hide hu
  have HNM := hide hnames
  have hlb : b0.length = 5 := hlb
  have h5 := bb5.size
  have hu63 := hu.inn.le
  clear hb7 hu hnames b56
  go_wp2
  go_loopw [13] (fun i wr => ∃ (k : Nat) (x : List Val), k ≤ 5 ∧ i = .int .i64 k ∧ Mix avs b0 x us k ∧ RowAt wr g ob x ∧ TyAt wr 41 g ∧ SlT wr 9 Au nu cu us ∧ Below w5.heap.size w5 wr) (fun i _ => 5 - (intOf i).toNat)
  case atStart => exact ⟨0, b0, by omega, rfl, ⟨hlb, fun i => .inr rfl, fun i h => absurd h (by omega)⟩, RB.out, TY.out, HU.out, b57.out⟩
  case round =>
    clear RB TY HU b57
    obtain ⟨k, x, hk, rfl, hmix, hrow, hty, hu, hb⟩ := hrel
    have MX := hide hmix
    have RW := hide hrow
    have TY := hide hty
    have HU := hide hu
    clear hmix hrow hty hu
    by_cases hlt : k < 5
    · have k0 : (0 : Int) ≤ (k : Int) := by omega
      have k5 : (k : Int) < (5 : Int) := by omega
      go_wp2
      go_loopw [14] (fun i wr => ∃ (j : Nat) (x : List Val), j ≤ nu ∧ i = .int .i64 j ∧ Mix avs b0 x us k ∧ (∀ q : Nat, q < j → us[q]? = some (cols5[k]'hlt).name → x[k]? = avs[k]?) ∧ RowAt wr g ob x ∧ TyAt wr 41 g ∧ SlT wr 9 Au nu cu us ∧ Below w5.heap.size w5 wr) (fun i _ => nu - (intOf i).toNat)
      case atStart => exact ⟨0, x, Nat.zero_le _, rfl, MX.out, (fun q h => absurd h (by omega)), RW.out, TY.out, HU.out, hb⟩
      case round =>
        clear MX RW TY HU hb
        obtain ⟨j, x, hj, rfl, hmix, hq, hrow, hty, hu, hb⟩ := hrel
        have MX := hide hmix
        have HQ := hide hq
        have RW := hide hrow
        have TY := hide hty
        have HU := hide hu
        clear hmix hq hrow hty hu
        by_cases hjl : j < nu
        · obtain ⟨bu, ou, y, rfl, hBu, HY, f0, _⟩ := HU.out.inn.str hjl
          have j0 : (0 : Int) ≤ (j : Int) := by omega
          have j1 : (j : Int) < (nu : Int) := by omega
          obtain ⟨cn, hcn⟩ : ∃ q, (cols5[k]'hlt).name = q := ⟨_, rfl⟩
          rw [hcn] at HQ
          have HCN := hide hcn
          clear hcn
          cases hyc : (y.toList == cn.toList)
          · go_wp2
            go_region_law (first
              | (go_simp; go_at_call 10; refine (columns_any _).mono ?_; rintro e w8 ⟨⟨rfl, hc8⟩, hb8⟩; have f0' := bat (below_undrew hb8) hBu f0; have hx8 := hide (below_undrew hb8); obtain ⟨b9, o9, z, e9, hB9, HZ, z0, _, _, _⟩ := hc8.col hlt; injection e9 with e9; injection e9 with e91 e92; subst e91 e92; have hzc : z.name = cn := (by have h1 := (drop_get HZ.out).1; rw [List.getElem?_eq_getElem (show k < cols5.length from hlt)] at h1; injection h1 with h1; rw [← h1]; exact HCN.out); rw [hzc] at z0; simp only [Nat.zero_add] at z0; have z0' : w8.cell? ⟨wr.heap.size, k * 3, none⟩ = some (.string cn) := z0; clear z0 hc8 hb8 HZ hB9 hzc; go_wp2_with fail))
            all_goals (
              have HN : Hid (∀ q : Nat, q < j + 1 → us[q]? = some cn → x[k]? = avs[k]?) := hide (fun q hqj he => by
                by_cases e : q = j
                · subst e
                  rw [(drop_get HY.out).1] at he
                  injection he with he
                  subst he
                  simp at hyc
                · exact HQ.out q (by omega) he)
              go_wp2
              go_roundw
              case rel => exact ⟨j + 1, x, by omega, by go_num, MX.out, by rw [HCN.out]; exact HN.out, RW.out.below TY.out.lt hx8.out, TY.out.below hx8.out, HU.out.below hx8.out, hb.trans (hx8.out.mono hb.size)⟩
              case measure => simp [intOf]; omega)
          · have hka : k < avs.length := by rw [HA.out.len]; exact hlt
            obtain ⟨ba, oa, v, hAa, hBa, HV, a0, a1, a2, vok⟩ := (HA.out.below hb).val hlt
            have hba : ba < w5.heap.size := by
              obtain ⟨b', o', x', e, hb', _⟩ := HA.out.get hlt
              rw [hAa] at e
              injection e with e
              injection e with e _
              omega
            subst hAa
            have hxl : k < x.length := by rw [MX.out.1]; exact hlt
            have HVK : Hid (avs[k]? = some v) := hide (drop_get HV.out).1
            have VOK := hide vok
            clear vok HV
            go_wp2
            go_region_law (first
              | (go_simp; go_at_call 10; refine (columns_any _).mono ?_; rintro e w8 ⟨⟨rfl, hc8⟩, hb8⟩; have f0' := bat (below_undrew hb8) hBu f0; have hx8 := hide (below_undrew hb8); obtain ⟨b9, o9, z, e9, hB9, HZ, z0, _, _, _⟩ := hc8.col hlt; injection e9 with e9; injection e9 with e91 e92; subst e91 e92; have hzc : z.name = cn := (by have h1 := (drop_get HZ.out).1; rw [List.getElem?_eq_getElem (show k < cols5.length from hlt)] at h1; injection h1 with h1; rw [← h1]; exact HCN.out); rw [hzc] at z0; simp only [Nat.zero_add] at z0; have z0' : w8.cell? ⟨wr.heap.size, k * 3, none⟩ = some (.string cn) := z0; clear z0 hc8 hb8 HZ hB9 hzc; go_wp2_with fail))
            all_goals (
              have RW8 := hide (RW.out.below TY.out.lt hx8.out)
              have TY8 := hide (TY.out.below hx8.out)
              have HU8 := hide (HU.out.below hx8.out)
              have a0 := bat hx8.out hBa a0
              have a1 := bat hx8.out hBa a1
              have a2 := bat hx8.out hBa a2
              obtain ⟨t0, t1, t2, _⟩ := RW8.out.cells hxl
              have F0 : w8.frozen? ⟨g, ob + k * 3, none⟩ = false := by obtain ⟨cur, h⟩ := TY8.out; exact frozen_of_row w8 g _ cur _ h
              have F1 : w8.frozen? ⟨g, ob + k * 3 + 1, none⟩ = false := by obtain ⟨cur, h⟩ := TY8.out; exact frozen_of_row w8 g _ cur _ h
              have F2 : w8.frozen? ⟨g, ob + k * 3 + 2, none⟩ = false := by obtain ⟨cur, h⟩ := TY8.out; exact frozen_of_row w8 g _ cur _ h
              have RS := hide (RW8.out.set hxl VOK.out)
              have MS := hide (MX.out.set HVK.out)
              have TS := hide (((TY8.out.set g (ob + k * 3) (.int .i64 v.kind)).set g (ob + k * 3 + 1) (.int .i64 v.num)).set g (ob + k * 3 + 2) (.string v.str))
              have US := hide (((HU8.out.set TY8.out (by decide) (ob + k * 3) (.int .i64 v.kind)).set (TY8.out.set g (ob + k * 3) (.int .i64 v.kind)) (by decide) (ob + k * 3 + 1) (.int .i64 v.num)).set ((TY8.out.set g (ob + k * 3) (.int .i64 v.kind)).set g (ob + k * 3 + 1) (.int .i64 v.num)) (by decide) (ob + k * 3 + 2) (.string v.str))
              have BS := hide ((((hb.trans (hx8.out.mono hb.size)).setCell (p := ⟨g, ob + k * 3, none⟩) hg5 (.int .i64 v.kind)).setCell (p := ⟨g, ob + k * 3 + 1, none⟩) hg5 (.int .i64 v.num)).setCell (p := ⟨g, ob + k * 3 + 2, none⟩) hg5 (.string v.str))
              have HN : Hid (∀ q : Nat, q < j + 1 → us[q]? = some cn → (x.set k v)[k]? = avs[k]?) := hide (fun q _ _ => by rw [List.getElem?_set_self hxl, HVK.out])
              have hgb : ¬ ba = g := by omega
              have ob1 : (ob : Int) = (ob : Int) := rfl
              clear RW8 HU8 TY8
              go_wp2
              go_roundw
              case rel => exact ⟨j + 1, x.set k v, by omega, by go_num, MS.out, by rw [HCN.out]; exact HN.out, RS.out, TS.out, US.out, BS.out⟩
              case measure => simp [intOf]; omega)
        · have HN : Hid (Mix avs b0 x us (k + 1)) := hide (MX.out.step fun h hm => by
            obtain ⟨q, hq, he⟩ := List.mem_iff_getElem.1 hm
            refine HQ.out q ?_ (by rw [List.getElem?_eq_getElem hq, he]; rfl)
            have := HU.out.inn.len
            omega)
          go_wp2
          go_roundw
          case rel => exact ⟨k + 1, x, by omega, by go_num, HN.out, RW.out, TY.out, HU.out, hb⟩
          case measure => simp [intOf]; omega
    · have hk5 : k = 5 := by omega
      subst hk5
      have hrx : rowErr cols5 x = 0 := rowErr_mix HRA.out HRB.out (MX.out.1) MX.out.2.1
      obtain ⟨rv, ex1, ex2⟩ := depends_law HO.out (by omega) HRA.out hrx (by
        intro nd hnd h1
        obtain ⟨t, hg⟩ := HO.out
        have hix := Ex.cols_in t hg.typed nd (by rw [← hg.nodes]; exact hnd) h1
        obtain ⟨i, cc, e1, e2, e3⟩ := col_at (cols := cols5) (name := nd.name) (by omega)
        have hi5 : i < cols5.length := by omega
        have hnm : (cols5[i]'hi5).name = nd.name := indexFrom_name nd.name cols5 0 i _ (by rw [← index, e1]; simp) (List.getElem?_eq_getElem hi5)
        rw [e1, Int.toNat_natCast]
        have := MX.out.2.2 i hi5 hi5 (by rw [hnm]; exact HNM.out nd hnd h1)
        simp only [List.getD, this])
      have BBR := bb5.trans (hb.mono h5)
      have N_es := hide (NE.out.below hb)
      have VA := hide (HA.out.below hb)
      have VB : Hid (In wr (some ⟨g, ob, none⟩) 5 cb x) := hide (RowAt.sl RW.out MX.out.1 hcb.1 hcb.2 TY.out.lt)
      obtain ⟨rk, rn, rs⟩ := rv
      have X1 := hide ex1
      have X2 := hide ex2
      clear ex1 ex2 hrx hb
      go_wp2_with fail
      refine (valueE_any _ _ _ _ es N_es.out (hw.below BBR) _ _ _ avs VA.out).mono ?_
      rintro e y1 ⟨rfl, hy1⟩
      rw [X1.out]
      simp only [Val.cells]
      have N_es := hide (N_es.out.below hy1)
      have VA := hide (VA.out.below hy1)
      have VB := hide (VB.out.below hy1)
      have bb_y1 := below_trans BBR hy1
      clear hy1 BBR
      obtain ⟨y2, hV⟩ : ∃ V, V = y1.alloc (.cells #[.int .i64 rk, .int .i64 rn, .string rs] 41) := ⟨_, rfl⟩
      have u0 : y2.cell? ⟨y1.heap.size, 0, none⟩ = some (.int .i64 rk) := by rw [hV]; simp [go_sem]
      have u1 : y2.cell? ⟨y1.heap.size, 1, none⟩ = some (.int .i64 rn) := by rw [hV]; simp [go_sem]
      have u2 : y2.cell? ⟨y1.heap.size, 2, none⟩ = some (.string rs) := by rw [hV]; simp [go_sem]
      have hbv : Below y1.heap.size y1 y2 := by rw [hV]; exact below_alloc
      go_upto_region 13 with (fail)
      rw [← hV]
      obtain ⟨G_u, hG⟩ : ∃ G, y1.heap.size = G := ⟨_, rfl⟩
      rw [hG] at u0 u1 u2
      rw [hG]
      clear hV hG
      have N_es := hide (N_es.out.below hbv)
      have VA := hide (VA.out.below hbv)
      have VB := hide (VB.out.below hbv)
      have bb_y2 := below_trans bb_y1 hbv
      clear hbv bb_y1
      have h_u := lt_of_cell u0
      go_wp2_with fail
      refine (valueE_any _ _ _ _ es N_es.out (hw.below bb_y2) _ _ _ x VB.out).mono ?_
      rintro e y3 ⟨rfl, hy3⟩
      rw [X2.out]
      simp only [Val.cells]
      have N_es := hide (N_es.out.below hy3)
      have VA := hide (VA.out.below hy3)
      have VB := hide (VB.out.below hy3)
      have u0 := bat hy3 h_u u0
      have u1 := bat hy3 h_u u1
      have u2 := bat hy3 h_u u2
      have h_u := lt_of_cell u0
      have bb_y3 := below_trans bb_y2 hy3
      clear hy3 bb_y2
      obtain ⟨y4, hV⟩ : ∃ V, V = y3.alloc (.cells #[.int .i64 rk, .int .i64 rn, .string rs] 41) := ⟨_, rfl⟩
      have t0 : y4.cell? ⟨y3.heap.size, 0, none⟩ = some (.int .i64 rk) := by rw [hV]; simp [go_sem]
      have t1 : y4.cell? ⟨y3.heap.size, 1, none⟩ = some (.int .i64 rn) := by rw [hV]; simp [go_sem]
      have t2 : y4.cell? ⟨y3.heap.size, 2, none⟩ = some (.string rs) := by rw [hV]; simp [go_sem]
      have hbv : Below y3.heap.size y3 y4 := by rw [hV]; exact below_alloc
      go_upto_region 14 with (fail)
      rw [← hV]
      obtain ⟨G_t, hG⟩ : ∃ G, y3.heap.size = G := ⟨_, rfl⟩
      rw [hG] at t0 t1 t2
      rw [hG]
      clear hV hG
      have N_es := hide (N_es.out.below hbv)
      have VA := hide (VA.out.below hbv)
      have VB := hide (VB.out.below hbv)
      have u0 := bat hbv h_u u0
      have u1 := bat hbv h_u u1
      have u2 := bat hbv h_u u2
      have h_u := lt_of_cell u0
      have bb_y4 := below_trans bb_y3 hbv
      clear hbv bb_y3
      have h_t := lt_of_cell t0
      have q1 : (rs == rs) = true := by rw [same_bytes]; simp
      clear N_es VA VB
      go_wp2_with fail
      refine (known_any _ (hw.below bb_y4)).mono ?_
      rintro e w99 ⟨rfl, hb99⟩
      go_wp2
      all_goals (try (exfalso; go_light; simp_all; done))
      go_ret
      exact ⟨rfl, below_trans bb_y4 hb99⟩
end Go.Proofs.YtmnhahilbbnkkaaGreatDoor
