/-
  partition.Between and warehouseref22.Between: the days of an interval.
-/
import Derived.Test.YtlbhnfnecfllkaaGreatGae
import Derived.Test.YtlbhnfnecfllkaaGreatStk
namespace Go.Proofs.YtlbhnfnecfllkaaGreat
open Go.RowKit
set_option linter.unusedSimpArgs false
set_option linter.unusedVariables false

theorem int_infoB : (Tryz.prog.info? 3).map (fun i => (i.zero, i.size, i.bytes)) = some (some (.int .i64 0), 1, 8) := by kernel_rfl
def btwE (z : Zone) (a b : Int) : List Int × Int :=
  if zoneErr z ≠ 0 then ([], zoneErr z) else if a < 0 ∨ 576000000 < a ∨ b < a ∨ 576000000 < b then ([], 1) else if 1024 < (daysS z a b).length then ([], 2) else (daysS z a b, 0)
theorem dayS_ok {z : Zone} (hz : zoneErr z = 0) {t : Int} (h0 : 0 ≤ t) (h1 : t < 576000000) : dayS z t = (dayAt z t, 0) := by
  have : dayErr z t = 0 := by rw [dayErr, if_neg (by simp [hz]), if_neg (by omega)]
  rw [dayS, if_neg (by simp [this])]
/-- Where the walk of an interval stands. -/
structure Btw (w w1 wr : World) (z : Zone) (a b : Int) (A : Option Addr) (c k : Nat) (ds : List Int) (t : Int) : Prop where
  t0 : 0 ≤ t
  t1 : t ≤ 576000000
  len : ds.length = k
  le : k ≤ 1024
  days : daysS z a b = ds ++ daysS z t b
  stk : Stk w1.heap.size wr 3 A c ds
  below : Below w1.heap.size w1 wr

set_option maxHeartbeats 1000000 in
set_option maxRecDepth 100000 in
theorem btw_any (w : World) (A : Option Addr) (n c : Nat) (z : Zone) (hx : In w A n c z.shifts) (ho : I64 z.offset) (a b : Int) :
    Calls Tryz.prog 34 #[.agg #[.string z.name, .int .i64 z.offset, .slice A n c], .int .i64 a, .int .i64 b] w
      fun e w' => (∃ B d, e = .returned (.tuple #[.slice B (btwE z a b).1.length d, .int .i64 (btwE z a b).2]) ∧ Stk w.heap.size w' 3 B d (btwE z a b).1) ∧ Below w.heap.size w w' := by
  obtain ⟨i0, hi, hz0, hz1, hz2⟩ := info_parts int_infoB
  have HD : Hid (btwE z a b = if zoneErr z ≠ 0 then ([], zoneErr z) else if a < 0 ∨ 576000000 < a ∨ b < a ∨ 576000000 < b then ([], 1) else if 1024 < (daysS z a b).length then ([], 2) else (daysS z a b, 0)) := hide rfl
  generalize btwE z a b = E at *
  go_enter Tryz.func34, Tryz.ntmps34
  go_wp2_with fail
  refine (zone_any _ A n c z (hx.below below_alloc) ho).mono ?_
  rintro e w1 ⟨rfl, hb1⟩
  have hbb := below_trans below_alloc hb1
  have g0 := bat (b := w.heap.size) (o := 0) (v := .string z.name) hb1 (by simp) (by simp [go_sem])
  have g1 := bat (b := w.heap.size) (o := 1) (v := .int .i64 z.offset) hb1 (by simp) (by simp [go_sem])
  have g2 := bat (b := w.heap.size) (o := 2) (v := .slice A n c) hb1 (by simp) (by simp [go_sem])
  have l1 := lt_of_cell g0
  clear hb1
  by_cases hz : zoneErr z = 0
  · have HZ := hide hz
    rw [hz]
    clear hz
    by_cases hr : a < 0 ∨ 576000000 < a ∨ b < a ∨ 576000000 < b
    · have HE : Hid (E = ([], 1)) := hide (by rw [HD.out, if_neg (by simp [HZ.out]), if_pos hr])
      have e1 : (decide (a < 0) || decide (a > 576000000) || decide (b < a) || decide (b > 576000000)) = true := by simp; omega
      by_cases r1 : a < 0
      · go_wp2
        all_goals (try (exfalso; go_light; simp_all; done))
        go_ret2
        exact ⟨⟨_, _, by rw [HE.out]; rfl, by rw [HE.out]; exact Stk.nil_ _ _ _⟩, hbb⟩
      by_cases r2 : 576000000 < a
      · go_wp2
        all_goals (try (exfalso; go_light; simp_all; done))
        go_ret2
        exact ⟨⟨_, _, by rw [HE.out]; rfl, by rw [HE.out]; exact Stk.nil_ _ _ _⟩, hbb⟩
      by_cases r3 : b < a
      · go_wp2
        all_goals (try (exfalso; go_light; simp_all; done))
        go_ret2
        exact ⟨⟨_, _, by rw [HE.out]; rfl, by rw [HE.out]; exact Stk.nil_ _ _ _⟩, hbb⟩
      have r4 : 576000000 < b := by omega
      go_wp2
      all_goals (try (exfalso; go_light; simp_all; done))
      go_ret2
      exact ⟨⟨_, _, by rw [HE.out]; rfl, by rw [HE.out]; exact Stk.nil_ _ _ _⟩, hbb⟩
    have r1 : 0 ≤ a := by omega
    have r2 : a ≤ 576000000 := by omega
    have r3 : a ≤ b := by omega
    have r4 : b ≤ 576000000 := by omega
    have HE : Hid (E = if 1024 < (daysS z a b).length then ([], 2) else (daysS z a b, 0)) := hide (by rw [HD.out, if_neg (by simp [HZ.out]), if_neg hr])
    clear hr HD
    go_wp2
    all_goals (try (exfalso; go_light; simp_all; done))
    go_loopw [9, 10] (fun o t wr => ∃ (B : Option Addr) (d k : Nat) (ds : List Int) (t' : Int), o = .slice B k d ∧ t = .int .i64 t' ∧ Btw w w1 wr z a b B d k ds t') (fun _ t _ => b.toNat - (intOf t).toNat)
    case atStart => exact ⟨none, 0, 0, [], a, rfl, rfl, r1, r2, rfl, by omega, rfl, Stk.nil_ _ _ _, Below.refl _ _⟩
    case round =>
      obtain ⟨B, d, k, ds, t, rfl, rfl, hB⟩ := hrel
      have HB := hide hB
      have t0 := hB.t0
      have t1 := hB.t1
      have hk := hB.le
      have p0 := bat hB.below l1 g0
      have p1 := bat hB.below l1 g1
      have p2 := bat hB.below l1 g2
      have lr := lt_of_cell p0
      clear hB
      by_cases hlt : t < b
      · have HS := hide (daysS_step z t0 r4 hlt)
        have hd0 := dayAt_nonneg z t
        have hd1 := dayAt_le HZ.out (t := t) (by omega)
        have hn := startS_next z t0 (show t < 576000000 by omega)
        obtain ⟨s0, s1, _, _⟩ := startS_spec z (dayAt z t + 1)
        have HDY := hide (dayS_ok HZ.out t0 (show t < 576000000 by omega))
        have HSE : Hid (startE z (dayAt z t + 1) = (startS z (dayAt z t + 1), 0)) := hide (by rw [startE, if_neg (by simp [HZ.out]), if_neg (by omega)])
        go_wp2_with fail
        refine (day_any wr A n c z (hx.below (below_trans hbb HB.out.below)) ho t).mono ?_
        rintro e w2 ⟨rfl, hb2⟩
        rw [HDY.out]
        generalize dayAt z t = D at *
        have HB2 := hide hb2
        clear hb2
        have q1 : IntKind.i64.wrap (D + 1) = D + 1 := IntWalk.i64_in _ (by omega)
        have q2 : IntKind.i64.wrap ((k : Int) + 1) = (k : Int) + 1 := IntWalk.i64_in _ (by omega)
        have hsz : w1.heap.size ≤ w2.heap.size := by have := HB2.out.size; have := HB.out.below.size; omega
        have HX : Hid (daysS z a b = (ds ++ [D]) ++ daysS z (startS z (D + 1)) b) := hide (by rw [HB.out.days, HS.out]; simp)
        by_cases hk4 : k = 1024
        · have HE2 : Hid (E = ([], 2)) := hide (by rw [HE.out, if_pos (by rw [HX.out, List.length_append, List.length_append, HB.out.len, hk4]; simp; omega)])
          subst hk4
          go_wp2_with (at_builtin; refine wpList_push (α := Int) _ rfl (.tmp 43) (.tmp 45) 27 rfl w1.heap.size 3 i0 _ 8 Tryz.underlying27 hi hz0 hz1 hz2 rfl (by decide) B d 1024 ds ((HB.out.stk.keep HB2.out).keep below_alloc) (Nat.le_of_eq HB.out.len.symm) rfl D ⟨by omega, by omega⟩ w2.heap.size rfl (oneAt_new _ _ _ _ rfl) (by omega) (by simp; omega) ?_; intro A' c' w5 hst5 hb5; have hbx := ((below_trans HB.out.below HB2.out).alloc hsz (.cells #[.int .i64 D] 3)).trans hb5)
          go_ret2
          exact ⟨⟨none, 0, by rw [HE2.out]; rfl, by rw [HE2.out]; exact Stk.nil_ _ _ _⟩, below_trans hbb hbx⟩
        go_wp2_with (at_builtin; refine wpList_push (α := Int) _ rfl (.tmp 43) (.tmp 45) 27 rfl w1.heap.size 3 i0 _ 8 Tryz.underlying27 hi hz0 hz1 hz2 rfl (by decide) B d k ds ((HB.out.stk.keep HB2.out).keep below_alloc) (Nat.le_of_eq HB.out.len.symm) rfl D ⟨by omega, by omega⟩ w2.heap.size rfl (oneAt_new _ _ _ _ rfl) (by omega) (by simp; omega) ?_; intro A' c' w5 hst5 hb5; have hbx := ((below_trans HB.out.below HB2.out).alloc hsz (.cells #[.int .i64 D] 3)).trans hb5; have x0 := bat hbx l1 g0; have x1 := bat hbx l1 g1; have x2 := bat hbx l1 g2)
        all_goals (try (exfalso; go_light; simp_all; omega))
        have HBX := hide hbx
        have HST := hide hst5
        clear hbx hst5 hb5
        refine (start_any w5 A n c z (hx.below (below_trans hbb HBX.out)) ho (D + 1)).mono ?_
        rintro e w6 ⟨rfl, hb6⟩
        rw [HSE.out]
        have HB6 := hide hb6
        clear hb6
        go_wp2
        go_roundw
        case rel =>
          refine ⟨A', c', k + 1, ds ++ [D], startS z (D + 1), rfl, rfl, s0, s1, ?_, by omega, HX.out, ?_, below_trans HBX.out HB6.out⟩
          · rw [List.length_append, HB.out.len]; rfl
          · have h5 := HST.out
            rw [List.take_of_length_le (by rw [HB.out.len]; omega)] at h5
            exact h5.keep HB6.out
        case measure => simp [intOf]; omega
      · have HX : Hid (daysS z a b = ds) := hide (by rw [HB.out.days, daysS_nil z hlt, List.append_nil])
        have HE2 : Hid (E = (ds, 0)) := hide (by rw [HE.out, HX.out, if_neg (by rw [HB.out.len]; omega)])
        go_wp2
        go_ret2
        refine ⟨⟨B, d, by rw [HE2.out]; simp only [HB.out.len]; rfl, ?_⟩, below_trans hbb HB.out.below⟩
        rw [HE2.out]
        exact ⟨ownsRow_base HB.out.stk.own (by have := hbb.size; omega), HB.out.stk.ok⟩
  · have HE : Hid (E = ([], zoneErr z)) := hide (by rw [HD.out, if_pos hz])
    have q : (zoneErr z != 0) = true := by simpa using hz
    clear hz
    go_wp2
    go_ret2
    exact ⟨⟨_, _, by rw [HE.out]; rfl, by rw [HE.out]; exact Stk.nil_ _ _ _⟩, hbb⟩
end Go.Proofs.YtlbhnfnecfllkaaGreat
