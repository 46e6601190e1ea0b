/-
  warehouseref22.Day, days; warehouselaw22.small.
-/
import Derived.Test.YtlbhnfnecfllkaaGreatDayP
import Derived.Test.YtlbhnfnecfllkaaGreatGad
namespace Go.Proofs.YtlbhnfnecfllkaaGreat
open Go.RowKit
set_option linter.unusedSimpArgs false
set_option linter.unusedVariables false

theorem firstErr_at {α : Type} {f : Nat → α → Int} : ∀ {l : List α} {k : Nat}, firstErr f k l = 0 → ∀ j x, l[j]? = some x → f (k + j) x = 0
  | [], _, _, j, x, h => by simp at h
  | y :: l, k, h, j, x, hj => by
    rw [firstErr] at h
    by_cases hy : f k y ≠ 0
    · rw [if_pos hy] at h; exact absurd h hy
    · rw [if_neg hy] at h
      cases j with
      | zero => simp at hj; subst hj; rw [Nat.add_zero]; omega
      | succ j =>
        have := firstErr_at h j x (by simpa using hj)
        rw [show k + (j + 1) = k + 1 + j by omega]
        exact this
theorem row_valid {cols : List Col} {row : List Val} (h : rowErr cols row = 0) {k : Nat} {x : Val} (hk : row[k]? = some x) : valid x = true := by
  have hl := rowErr_len h
  rw [rowErr, if_neg (by omega)] at h
  have h1 := firstErr_at h k x hk
  rw [Nat.zero_add] at h1
  cases hv : valid x
  · rw [cellErr, if_pos hv] at h1; omega
  · rfl
theorem valid_time {n : Int} {s : ByteArray} (h : valid ⟨4, n, s⟩ = true) : 0 ≤ n ∧ n ≤ 575999999 := by
  simp [valid] at h
  omega
theorem find_colsR {cols : List Col} {col : ByteArray} {z : Zone} (h : (findS cols col z).2 = 0) : colsErr cols = 0 := by
  by_cases q : colsErr cols = 0
  · exact q
  · rw [findS_cols q] at h; exact h
theorem findS_col {cols : List Col} {col : ByteArray} {z : Zone} (h : (findS cols col z).2 = 0) (hc : ¬ noStr col = true) : zoneErr z = 0 ∧ (findS cols col z).1 = index cols col ∧ ¬ index cols col < 0 := by
  have h0 := find_colsR h
  by_cases h2 : index cols col < 0
  · rw [findS_unknown h0 hc h2] at h; exact absurd h (by decide)
  · by_cases h3 : (cols.getD (index cols col).toNat default).kind ≠ 4 ∧ (cols.getD (index cols col).toNat default).kind ≠ 2
    · rw [findS_type h0 hc h2 h3] at h; exact absurd h (by decide)
    · rw [findS_ok h0 hc h2 h3] at h ⊢
      exact ⟨h, rfl, h2⟩
set_option maxHeartbeats 2000000 in
set_option maxRecDepth 100000 in
theorem dayPS_ref (w : World) (A1 : Option Addr) (n1 c1 : Nat) (cols : List Col) (hc : In w A1 n1 c1 cols) (col : ByteArray) (A : Option Addr) (n c : Nat) (z : Zone) (hx : In w A n c z.shifts) (ho : I64 z.offset) (A2 : Option Addr) (n2 c2 : Nat) (row : List Val) (hr : In w A2 n2 c2 row) :
    Calls Tryz.prog 69 #[.slice A1 n1 c1, .string col, .agg #[.string z.name, .int .i64 z.offset, .slice A n c], .slice A2 n2 c2] w fun e w' => e = .returned (.tuple #[.int .i64 (dayPS cols col z row).1, .int .i64 (dayPS cols col z row).2]) ∧ Below w.heap.size w w' := by
  have h64 := hr.le
  have HD : Hid (dayPS cols col z row = if (findS cols col z).2 ≠ 0 then (0, (findS cols col z).2) else if rowErr cols row ≠ 0 then (0, rowErr cols row) else (dayRow (findS cols col z).1 z row, 0)) := hide rfl
  generalize dayPS cols col z row = E at *
  go_enter Tryz.func69, Tryz.ntmps69
  go_wp2_with fail
  refine (validateP_ref _ _ _ _ cols (hc.below below_alloc) col A n c z (hx.below below_alloc) ho).mono ?_
  rintro e w1 ⟨rfl, hb1⟩
  have hbb := below_trans below_alloc hb1
  have g0 := bat (b := w.heap.size) (o := 0) (v := .string z.name) hb1 (by simp) (by simp [go_sem])
  have g1 := bat (b := w.heap.size) (o := 1) (v := .int .i64 z.offset) hb1 (by simp) (by simp [go_sem])
  have g2 := bat (b := w.heap.size) (o := 2) (v := .slice A n c) hb1 (by simp) (by simp [go_sem])
  have l1 := lt_of_cell g0
  clear hb1
  obtain ⟨fe, hfe⟩ : ∃ fe, (findS cols col z).2 = fe := ⟨_, rfl⟩
  have HFE := hide hfe
  rw [hfe]
  clear hfe
  by_cases h0 : fe = 0
  · subst h0
    go_wp2_with fail
    refine (checkRow_ref _ _ _ _ _ _ _ cols row (hc.below hbb) (hr.below hbb)).mono ?_
    rintro e w2 ⟨rfl, hb2⟩
    have g0 := bat hb2 l1 g0
    have g1 := bat hb2 l1 g1
    have g2 := bat hb2 l1 g2
    have l2 := lt_of_cell g0
    have hbb2 := below_trans hbb hb2
    clear hb2 l1
    by_cases h1 : rowErr cols row = 0
    · have HE : Hid (E = (dayRow (findS cols col z).1 z row, 0)) := hide (by rw [HD.out, if_neg (by simp [HFE.out]), if_neg (by simp [h1])])
      have HR1 := hide h1
      rw [h1]
      clear h1
      cases hcl : col.toList.isEmpty
      · have HCL : Hid (¬ noStr col = true) := hide (by rw [noStr, hcl]; simp)
        obtain ⟨hz0, hf1, hi0⟩ := findS_col HFE.out HCL.out
        obtain ⟨k, hk, hkl⟩ := indexP_at hi0
        have hk2 : k < n2 := by have := rowErr_len HR1.out; have := hr.len; omega
        go_wp2_with fail
        refine (index_ref _ _ _ _ cols (hc.below hbb2) col).mono ?_
        rintro e w3 ⟨rfl, rfl⟩
        rw [hk]
        obtain ⟨b, off, x, rfl, hB, HX, f0, f1, f2, hok⟩ := (hr.below hbb2).val hk2
        have HV : Hid (E = (dayVal z x, 0)) := hide (by rw [HE.out, hf1, hk, dayRow_at (drop_get HX.out).1])
        have HVA := hide (row_valid HR1.out (drop_get HX.out).1)
        have HZ0 := hide hz0
        have k0 : (0 : Int) ≤ (k : Int) := by omega
        have k1 : (k : Int) < (n2 : Int) := by omega
        clear hz0 hf1 hi0 hk hkl
        obtain ⟨xk, xn, xs⟩ := x
        simp only at f0 f1 f2
        by_cases h2 : xk = 2
        · subst h2
          by_cases h5 : 0 ≤ xn
          · by_cases h6 : xn ≤ 400000
            · have HQ : Hid (E = (xn, 0)) := hide (by rw [HV.out, dayVal, if_neg (show ¬ (2 : Int) = 4 by omega), if_pos ⟨rfl, h5, h6⟩])
              go_wp2
              all_goals (try (exfalso; go_light; simp_all; done))
              go_ret2
              exact ⟨by rw [HQ.out]; rfl, below_trans hbb2 below_alloc⟩
            · have HQ : Hid (E = (-1, 0)) := hide (by rw [HV.out, dayVal, if_neg (show ¬ (2 : Int) = 4 by omega), if_neg (fun h => h6 h.2.2)])
              go_wp2
              all_goals (try (exfalso; go_light; simp_all; done))
              go_ret2
              exact ⟨by rw [HQ.out]; rfl, below_trans hbb2 below_alloc⟩
          · have HQ : Hid (E = (-1, 0)) := hide (by rw [HV.out, dayVal, if_neg (show ¬ (2 : Int) = 4 by omega), if_neg (fun h => h5 h.2.1)])
            go_wp2
            all_goals (try (exfalso; go_light; simp_all; done))
            go_ret2
            exact ⟨by rw [HQ.out]; rfl, below_trans hbb2 below_alloc⟩
        · have q2 : (xk == 2) = false := by simpa using h2
          by_cases h4 : xk = 4
          · subst h4
            obtain ⟨t0, t1⟩ := valid_time HVA.out
            have HDE : Hid (dayErr z xn = 0) := hide (by rw [dayErr, if_neg (by simp [HZ0.out]), if_neg (by omega)])
            have HQ : Hid (E = (dayAt z xn, 0)) := hide (by rw [HV.out, dayVal, if_pos rfl, if_pos HDE.out])
            have HDS : Hid (dayS z xn = (dayAt z xn, 0)) := hide (by rw [dayS, if_neg (by simp [HDE.out])])
            clear h2
            go_wp2_with fail
            all_goals (try (exfalso; go_light; simp_all; done))
            refine (day_ref _ A n c z (hx.below (below_trans hbb2 below_alloc)) ho xn).mono ?_
            rintro e w4 ⟨rfl, hb4⟩
            rw [HDS.out]
            have hb5 := below_trans (below_trans hbb2 below_alloc) hb4
            clear hb4
            go_wp2
            go_ret2
            exact ⟨by rw [HQ.out]; rfl, hb5⟩
          · have q4 : (xk != 4) = true := by simpa using h4
            have HQ : Hid (E = (-1, 0)) := hide (by rw [HV.out, dayVal, if_neg h4, if_neg (fun h => h2 h.1)])
            clear h2 h4
            go_wp2
            all_goals (try (exfalso; go_light; simp_all; done))
            go_ret2
            exact ⟨by rw [HQ.out]; rfl, below_trans hbb2 below_alloc⟩
      · have HQ : Hid (E = (-1, 0)) := hide (by rw [HE.out, findS_none (find_colsR HFE.out) hcl, dayRow_neg (by show (-1 : Int) < 0; omega)])
        go_wp2
        go_ret2
        exact ⟨by rw [HQ.out]; rfl, hbb2⟩
    · have HE : Hid (E = (0, rowErr cols row)) := hide (by rw [HD.out, if_neg (by simp [HFE.out]), if_pos h1])
      have q : (rowErr cols row != 0) = true := by simpa using h1
      clear h1
      generalize rowErr cols row = r at *
      go_wp2
      all_goals (try (exfalso; go_light; simp_all; done))
      go_ret2
      exact ⟨by rw [HE.out]; rfl, hbb2⟩
  · have HE : Hid (E = (0, fe)) := hide (by rw [HD.out, if_pos (by rw [HFE.out]; exact h0), HFE.out])
    have q : (fe != 0) = true := by simpa using h0
    clear h0
    go_wp2
    all_goals (try (exfalso; go_light; simp_all; done))
    go_ret2
    exact ⟨by rw [HE.out]; rfl, hbb⟩

set_option maxHeartbeats 1000000 in
set_option maxRecDepth 100000 in
theorem small_law (w : World) (A1 A A3 : Option Addr) (n1 c1 n c n3 c3 : Nat) (nm : ByteArray) (o : Int) (h1 : n1 ≤ 9223372036854775807) (h2 : n ≤ 9223372036854775807) (h3 : n3 ≤ 9223372036854775807) :
    Calls Tryz.prog 9 #[.slice A1 n1 c1, .agg #[.string nm, .int .i64 o, .slice A n c], .slice A3 n3 c3] w fun e w' => e = .returned (.bool (decide (n1 ≤ 16) && decide (n ≤ 70) && decide (n3 ≤ 80))) ∧ Below w.heap.size w w' := by
  by_cases a1 : n1 ≤ 16
  · by_cases a2 : n ≤ 70
    · by_cases a3 : n3 ≤ 80
      all_goals
        go_enter Tryz.func9, Tryz.ntmps9
        go_wp2
        all_goals (try (exfalso; go_light; simp_all; done))
        go_ret
        exact ⟨ret_bool (by first | (simp_all; done) | (simp; omega) | (rw [Bool.eq_iff_iff]; simp; omega) | (trace_state; fail)), below_alloc⟩
    · go_enter Tryz.func9, Tryz.ntmps9
      go_wp2
      all_goals (try (exfalso; go_light; simp_all; done))
      go_ret
      exact ⟨ret_bool (by first | (simp_all; done) | (simp; omega) | (rw [Bool.eq_iff_iff]; simp; omega) | (trace_state; fail)), below_alloc⟩
  · go_enter Tryz.func9, Tryz.ntmps9
    go_wp2
    all_goals (try (exfalso; go_light; simp_all; done))
    go_ret
    exact ⟨ret_bool (by first | (simp_all; done) | (simp; omega) | (rw [Bool.eq_iff_iff]; simp; omega) | (trace_state; fail)), below_alloc⟩
end Go.Proofs.YtlbhnfnecfllkaaGreat
