/-
  schema.Validate and warehouseref5.Validate.
-/
import Derived.Test.YtmnhahilbbnkkaaName
import Derived.Test.YtmnhahilbbnkkaaIndex
namespace Go.Proofs.Ytmnhahilbbnkkaa
open Go.RowKit
set_option linter.unusedSimpArgs false
set_option linter.unusedVariables false

theorem firstErr_zero {α : Type} {f : Nat → α → Int} {k : Nat} {x : α} {l : List α} (h : f k x = 0) : firstErr f k (x :: l) = firstErr f (k + 1) l := by simp [firstErr, h]
theorem firstErr_err {α : Type} {f : Nat → α → Int} {k : Nat} {x : α} {l : List α} {e : Int} (h : f k x = e) (he : e ≠ 0) : firstErr f k (x :: l) = e := by simp [firstErr, h, he]
theorem indexFrom_ge (name : ByteArray) (l : List Col) : ∀ k, indexFrom name k l = -1 ∨ (k : Int) ≤ indexFrom name k l := by
  induction l with
  | nil => intro k; exact .inl rfl
  | cons c l ih =>
    intro k
    rw [indexFrom]
    split
    · exact .inr (Int.le_refl _)
    · rcases ih (k + 1) with h | h
      · exact .inl h
      · exact .inr (by omega)
/-- Index is at most the number of a column that has the name. -/
theorem indexFrom_le (name : ByteArray) (l : List Col) : ∀ k i, (h : i < l.length) → (l[i].name.toList == name.toList) = true → 0 ≤ indexFrom name k l ∧ indexFrom name k l ≤ k + i := by
  induction l with
  | nil => intro k i h; simp at h
  | cons c l ih =>
    intro k i h he
    rw [indexFrom]
    split
    · exact ⟨by omega, by omega⟩
    · rename_i hc
      cases i with
      | zero => exact absurd he hc
      | succ i =>
        have := ih (k + 1) i (by simpa using h) (by simpa using he)
        omega

set_option maxRecDepth 100000 in
theorem cols_any (w : World) (A : Option Addr) (n c : Nat) (xs : List Col) (hx : In w A n c xs) :
    Calls Try.prog 13 #[.slice A n c] w fun e w' => e = .returned (.int .i64 (colsErr xs)) ∧ Below w.heap.size w w' := by
  have h63 := hx.le
  have hlen := hide hx.len
  go_enter Try.func13, Try.ntmps13
  by_cases hs : n < 1 ∨ 12 < n
  · have he : Hid (2 = colsErr xs) := hide (by rw [colsErr, hlen.out, if_pos hs])
    rcases hs with hs | hs
    all_goals
      go_wp2
      go_ret
      exact ⟨ret_int he.out, Below.refl _ _⟩
  have HE0 : Hid (colsErr xs = firstErr (colErr xs) 0 xs) := hide (by rw [colsErr, hlen.out, if_neg hs])
  have hs1 : 1 ≤ n := by omega
  have hs2 : n ≤ 12 := by omega
  clear hs
  go_wp2
  go_loopw [15] (fun i wr => ∃ k : Nat, k ≤ n ∧ i = .int .i64 k ∧ firstErr (colErr xs) 0 xs = firstErr (colErr xs) k (xs.drop k) ∧ Below w.heap.size w wr) (fun i _ => n - (intOf i).toNat)
  case atStart => exact ⟨0, Nat.zero_le _, rfl, rfl, Below.refl _ _⟩
  case round =>
    obtain ⟨k, hk, rfl, heq, hb⟩ := hrel
    have HE := hide heq
    clear heq
    by_cases hlt : k < n
    · obtain ⟨b, off, x, rfl, hB, HX, e0, e1, e2, e3⟩ := (hx.below hb).col hlt
      go_wp2_with fail
      refine (isName_any x.name e3.1 _).mono ?_
      rintro e w1 ⟨rfl, hb1⟩
      have hbb := below_trans (below_trans hb below_alloc) hb1
      obtain ⟨hc1, hf1⟩ := bcell hb1
      have hin := hx.below hbb
      clear hb1 e0 e1 e2
      obtain ⟨hk1, hk2⟩ := e3.2
      cases hnm : isName x.name
      · go_wp2
        go_ret
        exact ⟨ret_int (by rw [HE0.out, HE.out, HX.out]; exact (firstErr_err (by simp [colErr, hnm]) (by omega)).symm), hbb⟩
      · by_cases hkd : x.kind < 1 ∨ 4 < x.kind
        · have he : colErr xs k x = 7 := by rw [colErr, if_neg (by simp [hnm]), if_pos hkd]
          have HR : Hid (7 = colsErr xs) := hide (by rw [HE0.out, HE.out, HX.out]; exact (firstErr_err he (by omega)).symm)
          clear he
          rcases hkd with hkd | hkd
          all_goals
            go_wp2
            go_ret
            exact ⟨ret_int HR.out, hbb⟩
        · have hk3 : 1 ≤ x.kind := by omega
          have hk4 : x.kind ≤ 4 := by omega
          have HC : Hid (colErr xs k x = if index xs x.name < k then 6 else 0) := hide (by rw [colErr, if_neg (by simp [hnm]), if_neg hkd])
          clear hkd
          go_wp2_with fail
          refine (index_any _ _ _ _ xs hin x.name).mono ?_
          rintro e w2 ⟨rfl, hb2⟩
          have hbb2 := below_trans hbb hb2
          clear hb2 hc1 hf1
          by_cases hi : index xs x.name < k
          · have HR : Hid (6 = colsErr xs) := hide (by rw [HE0.out, HE.out, HX.out]; exact (firstErr_err (by rw [HC.out, if_pos hi]) (by omega)).symm)
            go_wp2
            go_ret
            exact ⟨ret_int HR.out, hbb2⟩
          · go_wp2
            go_roundw
            case rel => exact ⟨k + 1, by omega, by go_num, by rw [HE.out, HX.out]; exact firstErr_zero (by rw [HC.out, if_neg (by omega)]), hbb2⟩
            case measure => simp [intOf]; omega
    · go_wp2
      go_ret
      exact ⟨ret_int (by rw [HE0.out, HE.out, drop_end hx.len (by omega), firstErr]), hb⟩

theorem index_self {xs : List Col} {k : Nat} {x : Col} {l : List Col} (h : xs.drop k = x :: l) : 0 ≤ index xs x.name ∧ index xs x.name ≤ k := by
  obtain ⟨h1, h2⟩ := drop_get h
  rw [List.getElem?_eq_getElem h2] at h1
  injection h1 with h1
  have := indexFrom_le x.name xs 0 k h2 (by rw [h1]; simp)
  rw [index]
  omega

set_option maxRecDepth 100000 in
theorem cols_ref (w : World) (A : Option Addr) (n c : Nat) (xs : List Col) (hx : In w A n c xs) :
    Calls Try.prog 17 #[.slice A n c] w fun e w' => e = .returned (.int .i64 (colsErr xs)) ∧ w = w' := by
  have h63 := hx.le
  have hlen := hide hx.len
  go_enter Try.func17, Try.ntmps17
  by_cases hs : n < 1 ∨ 12 < n
  · have he : Hid (2 = colsErr xs) := hide (by rw [colsErr, hlen.out, if_pos hs])
    rcases hs with hs | hs
    all_goals
      go_wp2
      go_ret
      exact ⟨ret_int he.out, rfl⟩
  have HE0 : Hid (colsErr xs = firstErr (colErr xs) 0 xs) := hide (by rw [colsErr, hlen.out, if_neg hs])
  have hs1 : 1 ≤ n := by omega
  have hs2 : n ≤ 12 := by omega
  clear hs
  go_wp2
  go_loop [3] (fun i => ∃ k : Nat, k ≤ n ∧ i = .int .i64 k ∧ firstErr (colErr xs) 0 xs = firstErr (colErr xs) k (xs.drop k)) (fun i => n - (intOf i).toNat)
  case atStart => exact ⟨0, Nat.zero_le _, rfl, rfl⟩
  case round =>
    obtain ⟨k, hk, rfl, heq⟩ := hrel
    have HE := hide heq
    clear heq
    by_cases hlt : k < n
    · obtain ⟨b, off, x, rfl, hB, HX, e0, e1, e2, e3⟩ := hx.col hlt
      obtain ⟨hk1, hk2⟩ := e3.2
      cases hnm : isName x.name
      · go_wp2_with (go_at_call 30; refine (isName_ref x.name e3.1 _).mono ?_; rintro e w' ⟨rfl, rfl⟩)
        go_ret
        exact ⟨ret_int (by rw [HE0.out, HE.out, HX.out]; exact (firstErr_err (by simp [colErr, hnm]) (by omega)).symm), rfl⟩
      · by_cases hkd : x.kind < 1 ∨ 4 < x.kind
        · have he : colErr xs k x = 7 := by rw [colErr, if_neg (by simp [hnm]), if_pos hkd]
          have HR : Hid (7 = colsErr xs) := hide (by rw [HE0.out, HE.out, HX.out]; exact (firstErr_err he (by omega)).symm)
          clear he
          rcases hkd with hkd | hkd
          all_goals
            go_wp2_with (go_at_call 30; refine (isName_ref x.name e3.1 _).mono ?_; rintro e w' ⟨rfl, rfl⟩)
            go_ret
            exact ⟨ret_int HR.out, rfl⟩
        · have hk3 : 1 ≤ x.kind := by omega
          have hk4 : x.kind ≤ 4 := by omega
          have HC : Hid (colErr xs k x = if index xs x.name < k then 6 else 0) := hide (by rw [colErr, if_neg (by simp [hnm]), if_neg hkd])
          clear hkd
          obtain ⟨i1, i2⟩ := index_self HX.out
          by_cases hi : index xs x.name = k
          · have HR : Hid (colErr xs k x = 0) := hide (by rw [HC.out, if_neg (by omega)])
            have hz : (index xs x.name == (k : Int)) = true := by simp [hi]
            have HI := hide hi
            clear hi
            go_wp2_with (first | (go_at_call 30; refine (isName_ref x.name e3.1 _).mono ?_; rintro e w' ⟨rfl, rfl⟩) | (go_at_call 31; refine (index_ref _ _ _ _ xs hx x.name).mono ?_; rintro e w' ⟨rfl, rfl⟩))
            all_goals (try (exfalso; go_light; simp_all; done))
            go_round
            case rel => exact ⟨k + 1, by omega, by go_num, by rw [HE.out, HX.out]; exact firstErr_zero HR.out⟩
            case measure => simp [intOf]; omega
          · have HR : Hid (6 = colsErr xs) := hide (by rw [HE0.out, HE.out, HX.out]; exact (firstErr_err (by rw [HC.out, if_pos (by omega)]) (by omega)).symm)
            have hz : (index xs x.name == (k : Int)) = false := by simp [hi]
            go_wp2_with (first | (go_at_call 30; refine (isName_ref x.name e3.1 _).mono ?_; rintro e w' ⟨rfl, rfl⟩) | (go_at_call 31; refine (index_ref _ _ _ _ xs hx x.name).mono ?_; rintro e w' ⟨rfl, rfl⟩))
            all_goals (try (exfalso; go_light; simp_all; done))
            go_ret
            exact ⟨ret_int HR.out, rfl⟩
    · go_wp2
      go_ret
      exact ⟨ret_int (by rw [HE0.out, HE.out, drop_end hx.len (by omega), firstErr]), rfl⟩
end Go.Proofs.Ytmnhahilbbnkkaa
