/-
  warehouselaw22.PartitionDay.
-/
import Derived.Test.YtlbhnfnecfllkaaKno
import Derived.Test.YtlbhnfnecfllkaaDayR
import Derived.Test.YtlbhnfnecfllkaaTabW
namespace Go.Proofs.Ytlbhnfnecfllkaa
open Go.RowKit
set_option linter.unusedSimpArgs false
set_option linter.unusedVariables false

set_option maxHeartbeats 8000000 in
set_option maxRecDepth 100000 in
theorem lawDy_any (w : World) (A1 : Option Addr) (n1 c1 : Nat) (cols : List Col) (hc : In w A1 n1 c1 cols) (col : ByteArray) (A : Option Addr) (n c : Nat) (z : Zone) (hx : In w A n c z.shifts) (ho : I64 z.offset) (A2 : Option Addr) (n2 c2 : Nat) (row : List Val) (hr : In w A2 n2 c2 row) (nn zz : Int) (A3 : Option Addr) (n3 c3 : Nat) (l : List Int) (hl : In w A3 n3 c3 l) :
    Calls Try.prog 4 #[.slice A1 n1 c1, .string col, .agg #[.string z.name, .int .i64 z.offset, .slice A n c], .slice A2 n2 c2, .int .i64 nn, .int .i64 zz, .slice A3 n3 c3] w
      fun e w' => e = .returned (.bool true) ∧ Below w.heap.size w w' := by
  have h1 := hc.le
  have h2 := hr.le
  have h3 := hl.le
  have h4 := hx.le
  by_cases hs : ¬ (n1 ≤ 16 ∧ n ≤ 70 ∧ n3 ≤ 80 ∧ n2 ≤ 16)
  · by_cases hs1 : n1 ≤ 16 ∧ n ≤ 70 ∧ n3 ≤ 80
    · have HB : Hid ((decide (n1 ≤ 16) && decide (n ≤ 70) && decide (n3 ≤ 80)) = true) := hide (by simp [hs1.1, hs1.2.1, hs1.2.2])
      have n2g : (16 : Int) < (n2 : Int) := by omega
      go_enter Try.func4, Try.ntmps4
      go_wp2_with fail
      refine (small_law _ A1 A A3 n1 c1 n c n3 c3 z.name z.offset h1 h4 h3).mono ?_
      rintro e w1 ⟨rfl, hb1⟩
      rw [HB.out]
      have hbb := below_trans below_alloc hb1
      go_wp2_with fail
      refine (known_any _).mono ?_
      rintro e w2 ⟨rfl, hb2⟩
      go_wp2
      go_ret
      exact ⟨rfl, below_trans hbb hb2⟩
    · have HB : Hid ((decide (n1 ≤ 16) && decide (n ≤ 70) && decide (n3 ≤ 80)) = false) := hide (by simp; omega)
      go_enter Try.func4, Try.ntmps4
      go_wp2_with fail
      refine (small_law _ A1 A A3 n1 c1 n c n3 c3 z.name z.offset h1 h4 h3).mono ?_
      rintro e w1 ⟨rfl, hb1⟩
      rw [HB.out]
      have hbb := below_trans below_alloc hb1
      go_wp2_with fail
      refine (known_any _).mono ?_
      rintro e w2 ⟨rfl, hb2⟩
      go_wp2
      go_ret
      exact ⟨rfl, below_trans hbb hb2⟩
  have hs : n1 ≤ 16 ∧ n ≤ 70 ∧ n3 ≤ 80 ∧ n2 ≤ 16 := by omega
  have HB : Hid ((decide (n1 ≤ 16) && decide (n ≤ 70) && decide (n3 ≤ 80)) = true) := hide (by simp [hs.1, hs.2.1, hs.2.2.1])
  have n2g : ¬ (16 : Int) < (n2 : Int) := by omega
  obtain ⟨E, hE⟩ : ∃ E, dayPS cols col z row = E := ⟨_, rfl⟩
  have HE := hide hE
  clear hE
  go_enter Try.func4, Try.ntmps4
  go_wp2_with fail
  refine (small_law _ A1 A A3 n1 c1 n c n3 c3 z.name z.offset h1 h4 h3).mono ?_
  rintro e w1 ⟨rfl, hb1⟩
  rw [HB.out]
  have hbb := below_trans below_alloc hb1
  have g0 := bat (b := w.heap.size) (o := 0) (v := .string z.name) hb1 (by simp) (by simp [go_sem])
  have g1 := bat (b := w.heap.size) (o := 1) (v := .int .i64 z.offset) hb1 (by simp) (by simp [go_sem])
  have g2 := bat (b := w.heap.size) (o := 2) (v := .slice A n c) hb1 (by simp) (by simp [go_sem])
  have l1 := lt_of_cell g0
  clear hb1
  go_wp2_with fail
  refine (dayPS_any _ _ _ _ cols (hc.below hbb) col A n c z (hx.below hbb) ho _ _ _ row (hr.below hbb)).mono ?_
  rintro e w2 ⟨rfl, hb2⟩
  rw [HE.out]
  have g0 := bat hb2 l1 g0
  have g1 := bat hb2 l1 g1
  have g2 := bat hb2 l1 g2
  have l2 := lt_of_cell g0
  have hbb2 := below_trans hbb hb2
  clear hb2 l1 hbb
  go_wp2_with fail
  refine (dayPS_ref _ _ _ _ cols (hc.below hbb2) col A n c z (hx.below hbb2) ho _ _ _ row (hr.below hbb2)).mono ?_
  rintro e w3 ⟨rfl, hb3⟩
  rw [HE.out]
  have g0 := bat hb3 l2 g0
  have g1 := bat hb3 l2 g1
  have g2 := bat hb3 l2 g2
  have l3 := lt_of_cell g0
  have hbb3 := below_trans hbb2 hb3
  clear hb3 l2 hbb2
  obtain ⟨ed, ee⟩ := E
  go_wp2
  have G0 := hide g0
  have G1 := hide g1
  have G2 := hide g2
  have L3 := hide l3
  have HB3 := hide hbb3
  have sA : True := trivial
  go_region_held3 (fun V => V.cell? ⟨w.heap.size, 0, none⟩ = some (.string z.name) ∧ V.cell? ⟨w.heap.size, 1, none⟩ = some (.int .i64 z.offset) ∧ V.cell? ⟨w.heap.size, 2, none⟩ = some (.slice A n c))
    (first | exact ⟨g0, g1, g2⟩ | exact ⟨bat HB5.out L3.out G0.out, bat HB5.out L3.out G1.out, bat HB5.out L3.out G2.out⟩ | exact ⟨bat HB4.out L3.out G0.out, bat HB4.out L3.out G1.out, bat HB4.out L3.out G2.out⟩)
    (first
      | (clear sA; go_at_call 14; refine (validateP_any _ _ _ _ cols (by exact hc.below (HB3.out.drew)) col A n c z (by exact hx.below (HB3.out.drew)) ho).mono ?_; rintro e w4 ⟨rfl, hb4⟩; have HB4 := hide (below_undrew hb4); have sB : True := trivial; clear hb4)
      | (clear sB; go_at_call 15; refine (validateP_ref _ _ _ _ cols (by exact hc.below (below_trans HB3.out HB4.out)) col A n c z (by exact hx.below (below_trans HB3.out HB4.out)) ho).mono ?_; rintro e w5 ⟨rfl, hb5⟩; have HB5 := hide (below_trans HB4.out hb5); clear hb5))
  have HBB5 := hide (below_trans HB3.out HB5.out)
  go_wp2_with fail
  refine (tableL_any w5 A3 n3 c3 l (hl.below HBB5.out) (by omega) nn zz).mono ?_
  rintro e w6 ⟨⟨gb, B1, m1, wc, Z, B2, m2, d2, B3, m3, d3, zs, j, rfl, hoc, hcm, hinZ, hmZ, hin, hto, hnum, hgb⟩, hb6⟩
  have HBB6 := hide (below_trans HBB5.out hb6)
  obtain ⟨hzZ, hoZ⟩ := wZones_ok Z hmZ
  have h63 := hin.le
  clear hb6 hto hnum hgb hcm HBB5 HB5 HB4 HB3 G0 G1 G2 L3 g0 g1 g2 hbb3 l3
  go_wp2
  obtain ⟨W7, hW7⟩ : ∃ W7, W7 = w6.alloc (.cells #[.string Z.name, .int .i64 Z.offset, .slice B2 m2 d2] 24) := ⟨_, rfl⟩
  have z0 : W7.cell? ⟨w6.heap.size, 0, none⟩ = some (.string Z.name) := by rw [hW7]; simp [go_sem]
  have z1 : W7.cell? ⟨w6.heap.size, 1, none⟩ = some (.int .i64 Z.offset) := by rw [hW7]; simp [go_sem]
  have z2 : W7.cell? ⟨w6.heap.size, 2, none⟩ = some (.slice B2 m2 d2) := by rw [hW7]; simp [go_sem]
  have hb7 : Below w6.heap.size w6 W7 := by rw [hW7]; exact below_alloc
  have hl7 := lt_of_cell z0
  have HC7 := hide (hoc.inn.below hb7)
  have HZ7 := hide (hinZ.below hb7)
  have HI7 := hide (hin.below hb7)
  have HBB7 := hide (below_trans HBB6.out hb7)
  rw [← hW7]
  clear hW7 hoc hinZ hin hb7
  go_loopw [23] (fun i wr => ∃ k : Nat, k ≤ m3 ∧ i = .int .i64 k ∧ Below W7.heap.size W7 wr) (fun i _ => m3 - (RowKit.intOf i).toNat)
  case atStart => exact ⟨0, Nat.zero_le _, rfl, Below.refl _ _⟩
  case round =>
    obtain ⟨k, hk, rfl, hb⟩ := hrel
    have HB := hide hb
    have p0 := bat hb hl7 z0
    have p1 := bat hb hl7 z1
    have p2 := bat hb hl7 z2
    have lr := lt_of_cell p0
    clear hb
    by_cases hlt : k < m3
    · obtain ⟨b, off, x, rfl, hBb, HX, Ax, An, Ac, e0, e1, e2, e3⟩ := (HI7.out.below HB.out).ent hlt
      have k0 : (0 : Int) ≤ (k : Int) := by omega
      have k1 : (k : Int) < (m3 : Int) := by omega
      have P0 := hide p0
      have P1 := hide p1
      have P2 := hide p2
      have E0 := hide e0
      have LR := hide lr
      have LB := hide hBb
      obtain ⟨F, hF⟩ : ∃ F, dayPS wc ⟨#[97, 116]⟩ Z x.row = F := ⟨_, rfl⟩
      have HF := hide hF
      clear hF
      go_wp2
      go_region_held3 (fun V => V.cell? ⟨w6.heap.size, 0, none⟩ = some (.string Z.name) ∧ V.cell? ⟨w6.heap.size, 1, none⟩ = some (.int .i64 Z.offset) ∧ V.cell? ⟨w6.heap.size, 2, none⟩ = some (.slice B2 m2 d2) ∧ V.cell? ⟨b, off + k * 2, none⟩ = some (.slice Ax An Ac))
        (first | exact ⟨p0, p1, p2, e0⟩ | exact ⟨bat HB8.out LR.out P0.out, bat HB8.out LR.out P1.out, bat HB8.out LR.out P2.out, bat HB8.out LB.out E0.out⟩)
        (first | (go_at_call 12; refine (dayPS_any _ _ _ _ wc (by exact HC7.out.below HB.out.drew) ⟨#[97, 116]⟩ B2 m2 d2 Z (by exact HZ7.out.below HB.out.drew) hoZ _ _ _ x.row (by exact e2.below (Below.refl _ _).drew)).mono ?_; rintro e w8 ⟨rfl, hb8⟩; have HB8 := hide (below_undrew hb8); rw [HF.out]; clear hb8))
      have q0 := bat HB8.out LR.out P0.out
      have q1 := bat HB8.out LR.out P1.out
      have q2 := bat HB8.out LR.out P2.out
      have q3 := bat HB8.out LB.out E0.out
      have LR8 := hide (lt_of_cell q0)
      have LB8 := hide (lt_of_cell q3)
      have Q0 := hide q0
      have Q1 := hide q1
      have Q2 := hide q2
      have Q3 := hide q3
      have HBX := hide (below_trans HB.out HB8.out)
      go_wp2
      go_region_held3 (fun V => V.cell? ⟨w6.heap.size, 0, none⟩ = some (.string Z.name) ∧ V.cell? ⟨w6.heap.size, 1, none⟩ = some (.int .i64 Z.offset) ∧ V.cell? ⟨w6.heap.size, 2, none⟩ = some (.slice B2 m2 d2) ∧ V.cell? ⟨b, off + k * 2, none⟩ = some (.slice Ax An Ac))
        (first | exact ⟨q0, q1, q2, q3⟩ | exact ⟨bat HB9.out LR8.out Q0.out, bat HB9.out LR8.out Q1.out, bat HB9.out LR8.out Q2.out, bat HB9.out LB8.out Q3.out⟩)
        (first | (go_at_call 13; refine (dayPS_ref _ _ _ _ wc (by exact HC7.out.below HBX.out.drew) ⟨#[97, 116]⟩ B2 m2 d2 Z (by exact HZ7.out.below HBX.out.drew) hoZ _ _ _ x.row (by exact e2.below HB8.out.drew)).mono ?_; rintro e w9 ⟨rfl, hb9⟩; have HB9 := hide (below_undrew hb9); rw [HF.out]; clear hb9))
      have HBY := hide (below_trans HBX.out HB9.out)
      clear p0 p1 p2 q0 q1 q2 q3 e0 e1 lr
      obtain ⟨fd, fe⟩ := F
      go_wp2
      go_roundw
      case rel => exact ⟨k + 1, by omega, by go_num, HBY.out⟩
      case measure => simp [RowKit.intOf]; omega
    · go_wp2_with fail
      refine (known_any _).mono ?_
      rintro e w8 ⟨rfl, hb8⟩
      have HB8 := hide (below_trans (below_trans HBB7.out HB.out) hb8)
      clear hb8
      go_wp2
      go_ret
      exact ⟨rfl, HB8.out⟩
end Go.Proofs.Ytlbhnfnecfllkaa
