/-
  partition.day, Day, check; warehouseref22.Day, days.
-/
import Derived.Test.YtlbhnfnecfllkaaGreatGae
import Derived.Test.YtlbhnfnecfllkaaGreatTab
import Derived.Test.YtlbhnfnecfllkaaGreatStk
namespace Go.Proofs.YtlbhnfnecfllkaaGreat
open Go.RowKit
set_option linter.unusedSimpArgs false
set_option linter.unusedVariables false

theorem dayRow_neg {at_ : Int} (h : at_ < 0) (z : Zone) (row : List Val) : dayRow at_ z row = -1 := by rw [dayRow, if_pos h]
theorem dayRow_at {k : Nat} {z : Zone} {row : List Val} {x : Val} (h : row[k]? = some x) : dayRow (k : Int) z row = dayVal z x := by
  rw [dayRow, if_neg (by omega), Int.toNat_natCast, List.getD, h]; rfl

set_option maxHeartbeats 2000000 in
set_option maxRecDepth 100000 in
theorem dayP_any (w : World) (A : Option Addr) (n c : Nat) (z : Zone) (hx : In w A n c z.shifts) (ho : I64 z.offset) (A2 : Option Addr) (n2 c2 : Nat) (row : List Val) (hr : In w A2 n2 c2 row) (at_ : Int) (hat : at_ < n2) :
    Calls Tryz.prog 44 #[.int .i64 at_, .agg #[.string z.name, .int .i64 z.offset, .slice A n c], .slice A2 n2 c2] w fun e w' => e = .returned (.int .i64 (dayRow at_ z row)) ∧ Below w.heap.size w w' := by
  have h64 := hr.le
  by_cases h0 : at_ < 0
  · have HR := hide (dayRow_neg h0 z row)
    go_enter Tryz.func44, Tryz.ntmps44
    go_wp2
    all_goals (try (exfalso; go_light; simp_all; done))
    go_ret
    exact ⟨ret_int HR.out.symm, below_alloc⟩
  obtain ⟨k, rfl⟩ : ∃ k : Nat, at_ = (k : Int) := ⟨at_.toNat, by omega⟩
  have hk : k < n2 := by omega
  have HBA : Below w.heap.size w (w.alloc (.cells #[.string z.name, .int .i64 z.offset, .slice A n c] 25)) := below_alloc
  obtain ⟨b, off, x, rfl, hB, HX, f0, f1, f2, hok⟩ := (hr.below HBA).val hk
  have HV := hide (dayRow_at (z := z) (drop_get HX.out).1)
  have k0 : (0 : Int) ≤ (k : Int) := by omega
  have k1 : (k : Int) < (n2 : Int) := by omega
  obtain ⟨xk, xn, xs⟩ := x
  simp only at f0 f1 f2
  have HBA := hide HBA
  by_cases h4 : xk = 4
  · subst h4
    have HQ : Hid (dayRow (k : Int) z row = if dayErr z xn = 0 then dayAt z xn else -1) := hide (by rw [HV.out, dayVal, if_pos rfl])
    go_enter Tryz.func44, Tryz.ntmps44
    go_wp2_with fail
    refine (day_any _ A n c z (hx.below (by exact below_alloc2)) ho xn).mono ?_
    rintro e w2 ⟨rfl, hb2⟩
    have hbb := below_trans below_alloc2 hb2
    clear hb2
    by_cases h5 : dayErr z xn = 0
    · have HD : Hid (dayS z xn = (dayAt z xn, 0)) := hide (by rw [dayS, if_neg (by simp [h5])])
      have HR : Hid (dayRow (k : Int) z row = dayAt z xn) := hide (by rw [HQ.out, if_pos h5])
      rw [HD.out]
      clear h5
      go_wp2
      go_ret
      exact ⟨ret_int HR.out.symm, hbb⟩
    · have HD : Hid (dayS z xn = (0, dayErr z xn)) := hide (by rw [dayS, if_pos h5])
      have HR : Hid (dayRow (k : Int) z row = -1) := hide (by rw [HQ.out, if_neg h5])
      rw [HD.out]
      have q : (dayErr z xn == 0) = false := by simpa using h5
      clear h5
      generalize dayErr z xn = q0 at *
      go_wp2
      all_goals (try (exfalso; go_light; simp_all; done))
      go_ret
      exact ⟨ret_int HR.out.symm, hbb⟩
  · have q4 : (xk == 4) = false := by simpa using h4
    by_cases h2 : xk = 2
    · subst h2
      by_cases h5 : 0 ≤ xn
      · by_cases h6 : xn ≤ 400000
        · have HQ : Hid (dayRow (k : Int) z row = xn) := hide (by rw [HV.out, dayVal, if_neg (show ¬ (2 : Int) = 4 by omega), if_pos ⟨rfl, h5, h6⟩])
          go_enter Tryz.func44, Tryz.ntmps44
          go_wp2
          all_goals (try (exfalso; go_light; simp_all; done))
          go_ret
          exact ⟨ret_int HQ.out.symm, below_alloc2⟩
        · have HQ : Hid (dayRow (k : Int) z row = -1) := hide (by rw [HV.out, dayVal, if_neg (show ¬ (2 : Int) = 4 by omega), if_neg (fun h => h6 h.2.2)])
          go_enter Tryz.func44, Tryz.ntmps44
          go_wp2
          all_goals (try (exfalso; go_light; simp_all; done))
          go_ret
          exact ⟨ret_int HQ.out.symm, below_alloc2⟩
      · have HQ : Hid (dayRow (k : Int) z row = -1) := hide (by rw [HV.out, dayVal, if_neg (show ¬ (2 : Int) = 4 by omega), if_neg (fun h => h5 h.2.1)])
        go_enter Tryz.func44, Tryz.ntmps44
        go_wp2
        all_goals (try (exfalso; go_light; simp_all; done))
        go_ret
        exact ⟨ret_int HQ.out.symm, below_alloc2⟩
    · have q2 : (xk == 2) = false := by simpa using h2
      have HQ : Hid (dayRow (k : Int) z row = -1) := hide (by rw [HV.out, dayVal, if_neg h4, if_neg (fun h => h2 h.1)])
      go_enter Tryz.func44, Tryz.ntmps44
      go_wp2
      all_goals (try (exfalso; go_light; simp_all; done))
      go_ret
      exact ⟨ret_int HQ.out.symm, below_alloc2⟩

/-- The number of a scheme's column lies in the columns. -/
theorem findS_lt {cols : List Col} {col : ByteArray} {z : Zone} : (findS cols col z).1 < cols.length := by
  rw [findS]
  split
  · omega
  · split
    · omega
    · split
      · omega
      · rename_i h
        obtain ⟨i, e1, e2⟩ := indexP_at h
        split
        · omega
        · show index cols col < _
          omega
theorem rowErr_len {cols : List Col} {row : List Val} (h : rowErr cols row = 0) : row.length = cols.length := by
  by_cases h1 : row.length = cols.length
  · exact h1
  · rw [rowErr, if_pos h1] at h; omega

set_option maxHeartbeats 2000000 in
set_option maxRecDepth 100000 in
theorem dayPS_any (w : World) (A1 : Option Addr) (n1 c1 : Nat) (cols : List Col) (hc : In w A1 n1 c1 cols) (col : ByteArray) (A : Option Addr) (n c : Nat) (z : Zone) (hx : In w A n c z.shifts) (ho : I64 z.offset) (A2 : Option Addr) (n2 c2 : Nat) (row : List Val) (hr : In w A2 n2 c2 row) :
    Calls Tryz.prog 33 #[.slice A1 n1 c1, .string col, .agg #[.string z.name, .int .i64 z.offset, .slice A n c], .slice A2 n2 c2] w fun e w' => e = .returned (.tuple #[.int .i64 (dayPS cols col z row).1, .int .i64 (dayPS cols col z row).2]) ∧ Below w.heap.size w w' := by
  have HL := hide (findS_lt (cols := cols) (col := col) (z := z))
  have HD : Hid (dayPS cols col z row = if (findS cols col z).2 ≠ 0 then (0, (findS cols col z).2) else if rowErr cols row ≠ 0 then (0, rowErr cols row) else (dayRow (findS cols col z).1 z row, 0)) := hide rfl
  generalize dayPS cols col z row = E at *
  go_enter Tryz.func33, Tryz.ntmps33
  go_wp2_with fail
  refine (findP_any _ _ _ _ cols (hc.below below_alloc) col A n c z (hx.below below_alloc) ho).mono ?_
  rintro e w1 ⟨rfl, hb1⟩
  have hbb := below_trans below_alloc hb1
  have g0 := bat (b := w.heap.size) (o := 0) (v := .string z.name) hb1 (by simp) (by simp [go_sem])
  have g1 := bat (b := w.heap.size) (o := 1) (v := .int .i64 z.offset) hb1 (by simp) (by simp [go_sem])
  have g2 := bat (b := w.heap.size) (o := 2) (v := .slice A n c) hb1 (by simp) (by simp [go_sem])
  have l1 := lt_of_cell g0
  clear hb1
  generalize findS cols col z = F at *
  obtain ⟨at_, fe⟩ := F
  by_cases h0 : fe = 0
  · subst h0
    go_wp2_with fail
    refine (checkRow_any _ _ _ _ _ _ _ cols row (hc.below hbb) (hr.below hbb)).mono ?_
    rintro e w2 ⟨rfl, hb2⟩
    have g0 := bat hb2 l1 g0
    have g1 := bat hb2 l1 g1
    have g2 := bat hb2 l1 g2
    have hbb2 := below_trans hbb hb2
    clear hb2 l1
    by_cases h1 : rowErr cols row = 0
    · have HA : Hid (at_ < n2) := hide (by have := rowErr_len h1; have := hc.len; have := hr.len; have h : at_ < cols.length := HL.out; omega)
      have HE : Hid (E = (dayRow at_ z row, 0)) := hide (by rw [HD.out, if_neg (by simp), if_neg (by simp [h1])])
      rw [h1]
      clear h1
      go_wp2_with fail
      refine (dayP_any _ A n c z (hx.below hbb2) ho _ _ _ row (hr.below hbb2) at_ HA.out).mono ?_
      rintro e w3 ⟨rfl, hb3⟩
      have hbb3 := below_trans hbb2 hb3
      clear hb3
      go_wp2
      go_ret2
      exact ⟨by rw [HE.out]; rfl, hbb3⟩
    · have HE : Hid (E = (0, rowErr cols row)) := hide (by rw [HD.out, if_neg (by simp), if_pos h1])
      have q : (rowErr cols row != 0) = true := by simpa using h1
      clear h1
      generalize rowErr cols row = r at *
      go_wp2
      all_goals (try (exfalso; go_light; simp_all; done))
      go_ret2
      exact ⟨by rw [HE.out]; rfl, hbb2⟩
  · have HE : Hid (E = (0, fe)) := hide (by rw [HD.out, if_pos h0])
    have q : (fe != 0) = true := by simpa using h0
    have q' : (fe == 0) = false := by simpa using h0
    clear h0
    go_wp2
    all_goals (try (exfalso; go_light; simp_all; done))
    go_ret2
    exact ⟨by rw [HE.out]; rfl, hbb⟩

/-- What check says of a scheme with a bag. -/
theorem scheme_find {cols : List Col} {col : ByteArray} {z : Zone} {rows : List Ent} (h : (findS cols col z).2 ≠ 0) : schemeErr cols col z rows = (findS cols col z).2 := by rw [schemeErr, if_pos h]
theorem scheme_bag {cols : List Col} {col : ByteArray} {z : Zone} {rows : List Ent} (h : (findS cols col z).2 = 0) (h1 : bagErr rows ≠ 0) : schemeErr cols col z rows = bagErr rows := by rw [schemeErr, if_neg (by simp [h]), if_pos h1]
theorem scheme_rows {cols : List Col} {col : ByteArray} {z : Zone} {rows : List Ent} (h : (findS cols col z).2 = 0) (h1 : bagErr rows = 0) : schemeErr cols col z rows = firstErr (fun _ x => rowErr cols x.row) 0 rows := by rw [schemeErr, if_neg (by simp [h]), if_neg (by simp [h1])]

set_option maxHeartbeats 2000000 in
set_option maxRecDepth 100000 in
theorem checkP_any (w : World) (A1 : Option Addr) (n1 c1 : Nat) (cols : List Col) (hc : In w A1 n1 c1 cols) (col : ByteArray) (A : Option Addr) (n c : Nat) (z : Zone) (hx : In w A n c z.shifts) (ho : I64 z.offset) (A2 : Option Addr) (n2 c2 : Nat) (rows : List Ent) (hr : In w A2 n2 c2 rows) :
    Calls Tryz.prog 35 #[.slice A1 n1 c1, .string col, .agg #[.string z.name, .int .i64 z.offset, .slice A n c], .slice A2 n2 c2] w fun e w' => e = .returned (.tuple #[.int .i64 (findS cols col z).1, .int .i64 (schemeErr cols col z rows)]) ∧ Below w.heap.size w w' := by
  have h64 := hr.le
  have S1 := hide (scheme_find (cols := cols) (col := col) (z := z) (rows := rows))
  have S2 := hide (scheme_bag (cols := cols) (col := col) (z := z) (rows := rows))
  have S3 := hide (scheme_rows (cols := cols) (col := col) (z := z) (rows := rows))
  generalize schemeErr cols col z rows = E at *
  obtain ⟨F, hF⟩ : ∃ F, findS cols col z = F := ⟨_, rfl⟩
  rw [hF] at S1 S2 S3 ⊢
  obtain ⟨at_, fe⟩ := F
  have HFF := hide hF
  clear hF
  go_enter Tryz.func35, Tryz.ntmps35
  go_wp2_with fail
  refine (findP_any _ _ _ _ cols (hc.below below_alloc) col A n c z (hx.below below_alloc) ho).mono ?_
  rintro e w1 ⟨rfl, hb1⟩
  have hbb := below_trans below_alloc hb1
  clear hb1
  rw [HFF.out]
  by_cases h0 : fe = 0
  · subst h0
    go_wp2_with fail
    refine (bag_any _ _ _ _ rows (hr.below hbb)).mono ?_
    rintro e w2 ⟨rfl, hb2⟩
    have hbb2 := below_trans hbb hb2
    clear hb2
    by_cases h1 : bagErr rows = 0
    · have HE : Hid (E = firstErr (fun _ x => rowErr cols x.row) 0 rows) := hide (S3.out (by trivial) h1)
      rw [h1]
      clear h1
      go_wp2
      go_loopw [11, 12] (fun q i wr => ∃ (k : Nat) (r : Int), k ≤ n2 ∧ i = .int .i64 k ∧ q = .int .i64 r ∧ (r = 0 → E = firstErr (fun _ x => rowErr cols x.row) k (rows.drop k)) ∧ (r ≠ 0 → E = r) ∧ Below w.heap.size w wr) (fun _ i _ => n2 - (intOf i).toNat)
      case atStart => exact ⟨0, 0, Nat.zero_le _, rfl, rfl, fun _ => HE.out, fun h => absurd (by trivial) h, hbb2⟩
      case round =>
        obtain ⟨k, r, hk, rfl, rfl, q1, q2, hb⟩ := hrel
        have Q1 := hide q1
        have Q2 := hide q2
        clear q1 q2
        by_cases hr0 : r = 0
        · subst hr0
          by_cases hlt : k < n2
          · obtain ⟨b, off, x, rfl, hB, HX, A', n', c', e0, e1, e2, e3⟩ := (hr.below hb).ent hlt
            have k0 : (0 : Int) ≤ (k : Int) := by omega
            have k1 : (k : Int) < (n2 : Int) := by omega
            go_wp2_with fail
            refine (checkRow_any _ _ _ _ _ _ _ cols x.row (hc.below hb) e2).mono ?_
            rintro e w3 ⟨rfl, hb3⟩
            have HB3 := hide (below_trans hb hb3)
            clear hb3
            have HR1 : Hid (rowErr cols x.row = 0 → E = firstErr (fun _ x => rowErr cols x.row) (k + 1) (rows.drop (k + 1))) := hide fun h => by rw [Q1.out (by trivial), HX.out]; exact firstErr_zero h
            have HR2 : Hid (rowErr cols x.row ≠ 0 → E = rowErr cols x.row) := hide fun h => by rw [Q1.out (by trivial), HX.out]; exact firstErr_err rfl h
            generalize rowErr cols x.row = q at *
            go_wp2
            go_roundw
            case rel => exact ⟨k + 1, q, by omega, by go_num, rfl, HR1.out, HR2.out, HB3.out⟩
            case measure => simp [intOf]; omega
          · have HF : Hid (E = 0) := hide (by rw [Q1.out (by trivial), drop_end hr.len (by omega), firstErr])
            go_wp2
            go_ret2
            exact ⟨by rw [HF.out]; rfl, hb⟩
        · have HF : Hid (E = r) := hide (Q2.out hr0)
          have q0 : (r == 0) = false := by simpa using hr0
          clear hr0
          by_cases hlt : k < n2
          · go_wp2
            all_goals (try (exfalso; go_light; simp_all; done))
            go_ret2
            exact ⟨by rw [HF.out]; rfl, hb⟩
          · go_wp2
            all_goals (try (exfalso; go_light; simp_all; done))
            go_ret2
            exact ⟨by rw [HF.out]; rfl, hb⟩
    · have HE : Hid (E = bagErr rows) := hide (S2.out (by trivial) h1)
      have q : (bagErr rows == 0) = false := by simpa using h1
      clear h1
      generalize bagErr rows = r at *
      go_wp2
      all_goals (try (exfalso; go_light; simp_all; done))
      go_loopw [11, 12] (fun q i wr => q = .int .i64 r ∧ i = .int .i64 0 ∧ Below w.heap.size w wr) (fun _ _ _ => 0)
      case atStart => exact ⟨rfl, rfl, hbb2⟩
      case round =>
        obtain ⟨rfl, rfl, hb⟩ := hrel
        by_cases hn : 0 < n2
        · have n0 : (0 : Int) < (n2 : Int) := by omega
          go_wp2
          all_goals (try (exfalso; go_light; simp_all; done))
          go_ret2
          exact ⟨by rw [HE.out]; rfl, hb⟩
        · go_wp2
          all_goals (try (exfalso; go_light; simp_all; done))
          go_ret2
          exact ⟨by rw [HE.out]; rfl, hb⟩
  · have HE : Hid (E = fe) := hide (S1.out h0)
    have q : (fe == 0) = false := by simpa using h0
    clear h0
    go_wp2
    all_goals (try (exfalso; go_light; simp_all; done))
    go_loopw [11, 12] (fun q i wr => q = .int .i64 fe ∧ i = .int .i64 0 ∧ Below w.heap.size w wr) (fun _ _ _ => 0)
    case atStart => exact ⟨rfl, rfl, hbb⟩
    case round =>
      obtain ⟨rfl, rfl, hb⟩ := hrel
      by_cases hn : 0 < n2
      · have n0 : (0 : Int) < (n2 : Int) := by omega
        go_wp2
        all_goals (try (exfalso; go_light; simp_all; done))
        go_ret2
        exact ⟨by rw [HE.out]; rfl, hb⟩
      · go_wp2
        all_goals (try (exfalso; go_light; simp_all; done))
        go_ret2
        exact ⟨by rw [HE.out]; rfl, hb⟩
end Go.Proofs.YtlbhnfnecfllkaaGreat
