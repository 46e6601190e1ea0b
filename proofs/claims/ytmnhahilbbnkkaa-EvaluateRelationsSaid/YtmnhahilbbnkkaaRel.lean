/-
  evaluate.Validate and warehouseref19.Validate.
-/
import Derived.Test.YtmnhahilbbnkkaaTab
namespace Go.Proofs.Ytmnhahilbbnkkaa
open Go.RowKit
set_option linter.unusedSimpArgs false
set_option linter.unusedVariables false

def rowsF (cols : List Col) (_ : Nat) (x : Ent) : Int := rowErr cols x.row
theorem relErr_def (r : Rel) : relErr r = if colsErr r.columns ≠ 0 then colsErr r.columns else if bagErr r.rows ≠ 0 then bagErr r.rows else if isTable r.rows = false then 8 else firstErr (rowsF r.columns) 0 r.rows := rfl

set_option maxHeartbeats 2000000 in
set_option maxRecDepth 100000 in
theorem rel_any (w : World) (A A' A'' : Option Addr) (n n' n'' c c' c'' : Nat) (r : Rel) (hx : In w A n c r.columns) (hy : In w A'' n'' c'' r.rows) :
    Calls Try.prog 7 #[.agg #[.string r.name, .slice A n c, .slice A' n' c', .slice A'' n'' c'']] w fun e w' => e = .returned (.int .i64 (relErr r)) ∧ Below w.heap.size w w' := by
  obtain ⟨nm, cols, keys, rows⟩ := r
  simp only at hx hy ⊢
  have h63 := hy.le
  have hlen := hide hy.len
  go_enter Try.func7, Try.ntmps7
  go_wp2_with fail
  refine (cols_any _ _ _ _ cols (hx.below below_alloc)).mono ?_
  rintro e w1 ⟨rfl, hb1⟩
  have hbb1 := below_trans below_alloc hb1
  have g1 : w1.cell? ⟨w.heap.size, 1, none⟩ = some (.slice A n c) := bat hb1 (by simp) (by simp [go_sem])
  have g3 : w1.cell? ⟨w.heap.size, 3, none⟩ = some (.slice A'' n'' c'') := bat hb1 (by simp) (by simp [go_sem])
  have hs1 : w.heap.size < w1.heap.size := by have := hb1.size; simp at this; omega
  clear hb1
  cases hz1 : (colsErr cols == 0)
  · have he : Hid (colsErr cols = relErr ⟨nm, cols, keys, rows⟩) := hide (by rw [relErr_def, if_pos (by simpa using hz1)])
    go_wp2
    all_goals (try (exfalso; go_light; simp_all; done))
    go_ret
    exact ⟨ret_int he.out, hbb1⟩
  have q1 : colsErr cols = 0 := by simpa using hz1
  rw [q1]
  have Q1 := hide q1
  clear q1 hz1
  go_wp2_with fail
  refine (bag_any _ _ _ _ rows (hy.below hbb1)).mono ?_
  rintro e w2 ⟨rfl, hb2⟩
  have hbb2 := below_trans hbb1 hb2
  replace g1 := bat hb2 hs1 g1
  replace g3 := bat hb2 hs1 g3
  have hs2 : w.heap.size < w2.heap.size := by have := hb2.size; omega
  clear hb2 hs1
  cases hz2 : (bagErr rows == 0)
  · have he : Hid (bagErr rows = relErr ⟨nm, cols, keys, rows⟩) := hide (by rw [relErr_def, if_neg (by simp [Q1.out]), if_pos (by simpa using hz2)])
    go_wp2
    all_goals (try (exfalso; go_light; simp_all; done))
    go_ret
    exact ⟨ret_int he.out, hbb2⟩
  have q2 : bagErr rows = 0 := by simpa using hz2
  rw [q2]
  have Q2 := hide q2
  clear q2 hz2
  go_wp2_with fail
  refine (isTable_any _ _ _ _ rows (hy.below hbb2)).mono ?_
  rintro e w3 ⟨rfl, hb3⟩
  have hbb3 := below_trans hbb2 hb3
  replace g1 := bat hb3 hs2 g1
  replace g3 := bat hb3 hs2 g3
  have hs3 : w.heap.size < w3.heap.size := by have := hb3.size; omega
  clear hb3 hs2
  cases hz3 : isTable rows
  · have he : Hid (8 = relErr ⟨nm, cols, keys, rows⟩) := hide (by rw [relErr_def, if_neg (by simp [Q1.out]), if_neg (by simp [Q2.out]), if_pos hz3])
    go_wp2
    go_ret
    exact ⟨ret_int he.out, hbb3⟩
  have HE0 : Hid (relErr ⟨nm, cols, keys, rows⟩ = firstErr (rowsF cols) 0 rows) := hide (by rw [relErr_def, if_neg (by simp [Q1.out]), if_neg (by simp [Q2.out]), if_neg (by simp [hz3])])
  clear hz3
  go_wp2
  go_loopw [27] (fun i wr => ∃ k : Nat, k ≤ n'' ∧ i = .int .i64 k ∧ firstErr (rowsF cols) 0 rows = firstErr (rowsF cols) k (rows.drop k) ∧ Below w3.heap.size w3 wr) (fun i _ => n'' - (intOf i).toNat)
  case atStart => exact ⟨0, Nat.zero_le _, rfl, rfl, Below.refl _ _⟩
  case round =>
    obtain ⟨k, hk, rfl, heq, hb⟩ := hrel
    have HE := hide heq
    clear heq
    have hbr := below_trans hbb3 hb
    have g1r := bat hb hs3 g1
    have hsr : w.heap.size < wr.heap.size := Nat.lt_of_lt_of_le hs3 hb.size
    by_cases hlt : k < n''
    · obtain ⟨b, off, x, rfl, hB, HX, Ax, nx, cx, e0, e1, e2, e3⟩ := (hy.below hbr).ent hlt
      go_wp2_with fail
      refine (checkRow_any _ _ _ _ _ _ _ cols x.row (hx.below (below_trans hbr below_alloc)) (e2.below below_alloc)).mono ?_
      rintro e w4 ⟨rfl, hb4⟩
      have hbb := below_trans (below_trans hb below_alloc) hb4
      have hbb4 := below_trans (below_trans hbr below_alloc) hb4
      clear hb4 e0 e1 e2
      cases hz : (rowErr cols x.row == 0)
      · have hz' : ¬ rowErr cols x.row = 0 := by simpa using hz
        have he : Hid (rowErr cols x.row = relErr ⟨nm, cols, keys, rows⟩) := hide (by rw [HE0.out, HE.out, HX.out]; exact (firstErr_err (by rw [rowsF]) hz').symm)
        go_wp2
        all_goals (try (exfalso; go_light; simp_all; done))
        go_ret
        exact ⟨ret_int he.out, hbb4⟩
      · have hz' : rowErr cols x.row = 0 := by simpa using hz
        have he : Hid (firstErr (rowsF cols) 0 rows = firstErr (rowsF cols) (k + 1) (rows.drop (k + 1))) := hide (by rw [HE.out, HX.out]; exact firstErr_zero hz')
        rw [hz']
        clear hz hz'
        go_wp2
        all_goals (try (exfalso; go_light; simp_all; done))
        go_roundw
        case rel => exact ⟨k + 1, by omega, by go_num, he.out, hbb⟩
        case measure => simp [intOf]; omega
    · go_wp2
      go_ret
      exact ⟨ret_int (by rw [HE0.out, HE.out, drop_end hy.len (by omega), firstErr]), hbr⟩
set_option maxHeartbeats 2000000 in
set_option maxRecDepth 100000 in
theorem rel_ref (w : World) (A A' A'' : Option Addr) (n n' n'' c c' c'' : Nat) (r : Rel) (hx : In w A n c r.columns) (hy : In w A'' n'' c'' r.rows) :
    Calls Try.prog 8 #[.agg #[.string r.name, .slice A n c, .slice A' n' c', .slice A'' n'' c'']] w fun e w' => e = .returned (.int .i64 (relErr r)) ∧ Below w.heap.size w w' := by
  obtain ⟨nm, cols, keys, rows⟩ := r
  simp only at hx hy ⊢
  have h63 := hy.le
  have hlen := hide hy.len
  go_enter Try.func8, Try.ntmps8
  go_wp2_with fail
  refine (cols_ref _ _ _ _ cols (hx.below below_alloc)).mono ?_
  rintro e w1 ⟨rfl, hw1⟩
  have hb1 : Below (w.alloc (.cells #[.string nm, .slice A n c, .slice A' n' c', .slice A'' n'' c''] 26)).heap.size (w.alloc (.cells #[.string nm, .slice A n c, .slice A' n' c', .slice A'' n'' c''] 26)) w1 := by rw [hw1]; exact Below.refl _ _
  clear hw1
  have hbb1 := below_trans below_alloc hb1
  have g1 : w1.cell? ⟨w.heap.size, 1, none⟩ = some (.slice A n c) := bat hb1 (by simp) (by simp [go_sem])
  have g3 : w1.cell? ⟨w.heap.size, 3, none⟩ = some (.slice A'' n'' c'') := bat hb1 (by simp) (by simp [go_sem])
  have hs1 : w.heap.size < w1.heap.size := by have := hb1.size; simp at this; omega
  clear hb1
  cases hz1 : (colsErr cols == 0)
  · have he : Hid (colsErr cols = relErr ⟨nm, cols, keys, rows⟩) := hide (by rw [relErr_def, if_pos (by simpa using hz1)])
    go_wp2
    all_goals (try (exfalso; go_light; simp_all; done))
    go_ret
    exact ⟨ret_int he.out, hbb1⟩
  have q1 : colsErr cols = 0 := by simpa using hz1
  rw [q1]
  have Q1 := hide q1
  clear q1 hz1
  go_wp2_with fail
  refine (bag_ref _ _ _ _ rows (hy.below hbb1)).mono ?_
  rintro e w2 ⟨rfl, hb2⟩
  have hbb2 := below_trans hbb1 hb2
  replace g1 := bat hb2 hs1 g1
  replace g3 := bat hb2 hs1 g3
  have hs2 : w.heap.size < w2.heap.size := by have := hb2.size; omega
  clear hb2 hs1
  cases hz2 : (bagErr rows == 0)
  · have he : Hid (bagErr rows = relErr ⟨nm, cols, keys, rows⟩) := hide (by rw [relErr_def, if_neg (by simp [Q1.out]), if_pos (by simpa using hz2)])
    go_wp2
    all_goals (try (exfalso; go_light; simp_all; done))
    go_ret
    exact ⟨ret_int he.out, hbb2⟩
  have q2 : bagErr rows = 0 := by simpa using hz2
  rw [q2]
  have Q2 := hide q2
  clear q2 hz2
  go_wp2_with fail
  refine (isTable_ref _ _ _ _ rows (hy.below hbb2)).mono ?_
  rintro e w3 ⟨rfl, hb3⟩
  have hbb3 := below_trans hbb2 hb3
  replace g1 := bat hb3 hs2 g1
  replace g3 := bat hb3 hs2 g3
  have hs3 : w.heap.size < w3.heap.size := by have := hb3.size; omega
  clear hb3 hs2
  cases hz3 : isTable rows
  · have he : Hid (8 = relErr ⟨nm, cols, keys, rows⟩) := hide (by rw [relErr_def, if_neg (by simp [Q1.out]), if_neg (by simp [Q2.out]), if_pos hz3])
    go_wp2
    go_ret
    exact ⟨ret_int he.out, hbb3⟩
  have HE0 : Hid (relErr ⟨nm, cols, keys, rows⟩ = firstErr (rowsF cols) 0 rows) := hide (by rw [relErr_def, if_neg (by simp [Q1.out]), if_neg (by simp [Q2.out]), if_neg (by simp [hz3])])
  clear hz3
  go_wp2
  go_loopw [5] (fun i wr => ∃ k : Nat, k ≤ n'' ∧ i = .int .i64 k ∧ firstErr (rowsF cols) 0 rows = firstErr (rowsF cols) k (rows.drop k) ∧ Below w3.heap.size w3 wr) (fun i _ => n'' - (intOf i).toNat)
  case atStart => exact ⟨0, Nat.zero_le _, rfl, rfl, Below.refl _ _⟩
  case round =>
    obtain ⟨k, hk, rfl, heq, hb⟩ := hrel
    have HE := hide heq
    clear heq
    have hbr := below_trans hbb3 hb
    have g1r := bat hb hs3 g1
    have g3r := bat hb hs3 g3
    have hsr : w.heap.size < wr.heap.size := Nat.lt_of_lt_of_le hs3 hb.size
    by_cases hlt : k < n''
    · obtain ⟨b, off, x, rfl, hB, HX, Ax, nx, cx, e0, e1, e2, e3⟩ := (hy.below hbr).ent hlt
      have i0 : (0 : Int) ≤ (k : Int) := by omega
      have i1 : (k : Int) < (n'' : Int) := by omega
      have hinx := hx.below hbr
      go_wp2_with fail
      go_region_held3 (fun w' => w'.cell? ⟨w.heap.size, 1, none⟩ = some (.slice A n c) ∧ w'.cell? ⟨w.heap.size, 3, none⟩ = some (.slice (some ⟨b, off, none⟩) n'' c'') ∧ w'.cell? ⟨b, off + k * 2, none⟩ = some (.slice Ax nx cx)) (first | exact ⟨g1r, g3r, e0⟩ | (have hq := below_undrew hb4; exact ⟨bat hq hsr g1r, bat hq hsr g3r, bat hq hB e0⟩)) (first | (go_at_call 20; refine (checkRow_ref _ A Ax n nx c cx cols x.row (by exact hinx) (by exact e2)).mono ?_; rintro e w4 ⟨rfl, hb4⟩))
      have hbb := below_trans hb (below_undrew hb4)
      have hbb4 := below_trans hbr (below_undrew hb4)
      clear hb4 e0 e1 e2
      cases hz : (rowErr cols x.row == 0)
      · have hz' : ¬ rowErr cols x.row = 0 := by simpa using hz
        have he : Hid (rowErr cols x.row = relErr ⟨nm, cols, keys, rows⟩) := hide (by rw [HE0.out, HE.out, HX.out]; exact (firstErr_err (by rw [rowsF]) hz').symm)
        go_wp2
        all_goals (try (exfalso; go_light; simp_all; done))
        go_ret
        exact ⟨ret_int he.out, hbb4⟩
      · have hz' : rowErr cols x.row = 0 := by simpa using hz
        have he : Hid (firstErr (rowsF cols) 0 rows = firstErr (rowsF cols) (k + 1) (rows.drop (k + 1))) := hide (by rw [HE.out, HX.out]; exact firstErr_zero hz')
        rw [hz']
        clear hz hz'
        go_wp2
        all_goals (try (exfalso; go_light; simp_all; done))
        go_roundw
        case rel => exact ⟨k + 1, by omega, by go_num, he.out, hbb⟩
        case measure => simp [intOf]; omega
    · go_wp2
      go_ret
      exact ⟨ret_int (by rw [HE0.out, HE.out, drop_end hy.len (by omega), firstErr]), hbr⟩
end Go.Proofs.Ytmnhahilbbnkkaa
