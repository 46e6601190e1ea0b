/-
  schema.CheckRow and warehouseref5.CheckRow.
-/
import Derived.Test.YtmnhahilbbnkkaaVal
import Derived.Test.YtmnhahilbbnkkaaVref
import Derived.Test.YtmnhahilbbnkkaaCols
namespace Go.Proofs.Ytmnhahilbbnkkaa
open Go.RowKit
set_option linter.unusedSimpArgs false
set_option linter.unusedVariables false

theorem getD_drop {α : Type} {xs : List α} {k : Nat} {x d : α} {l : List α} (h : xs.drop k = x :: l) : xs.getD k d = x := by
  rw [List.getD, (drop_get h).1]; rfl
def rowF (cols : List Col) (i : Nat) (v : Val) : Int := cellErr (cols.getD i default) v
theorem rowF_eq {cols : List Col} {k : Nat} {y : Col} {l : List Col} {x : Val} (h : cols.drop k = y :: l) : rowF cols k x = cellErr y x := by rw [rowF, getD_drop h]

set_option maxRecDepth 100000 in
theorem checkRow_any (w : World) (A A' : Option Addr) (n n' c c' : Nat) (cols : List Col) (row : List Val) (hx : In w A n c cols) (hy : In w A' n' c' row) :
    Calls Try.prog 16 #[.slice A n c, .slice A' n' c'] w fun e w' => e = .returned (.int .i64 (rowErr cols row)) ∧ Below w.heap.size w w' := by
  have h63 := hx.le
  have h63' := hy.le
  have hlen := hide hx.len
  have hlen' := hide hy.len
  go_enter Try.func16, Try.ntmps16
  cases hs : ((n' : Int) == (n : Int))
  · have he : Hid (8 = rowErr cols row) := hide (by rw [rowErr, hlen.out, hlen'.out, if_pos (by simp at hs; omega)])
    go_wp2
    all_goals (try (exfalso; go_light; simp_all; done))
    go_ret
    exact ⟨ret_int he.out, Below.refl _ _⟩
  have HE0 : Hid (rowErr cols row = firstErr (rowF cols) 0 row) := hide (by rw [rowErr, hlen.out, hlen'.out, if_neg (by simp at hs; omega)]; rfl)
  have hnn : n = n' := by simp at hs; omega
  go_wp2
  all_goals (try (exfalso; go_light; simp_all; done))
  have HN := hide hnn
  clear hs hnn
  go_loopw [15] (fun i wr => ∃ k : Nat, k ≤ n' ∧ i = .int .i64 k ∧ firstErr (rowF cols) 0 row = firstErr (rowF cols) k (row.drop k) ∧ Below w.heap.size w wr) (fun i _ => n' - (intOf i).toNat)
  case atStart => exact ⟨0, Nat.zero_le _, rfl, rfl, Below.refl _ _⟩
  case round =>
    obtain ⟨k, hk, rfl, heq, hb⟩ := hrel
    have HE := hide heq
    clear heq
    by_cases hlt : k < n'
    · have hltn : k < n := by rw [HN.out]; exact hlt
      obtain ⟨b', off', x, rfl, hB', HX, f0, f1, f2, f3⟩ := (hy.below hb).val hlt
      obtain ⟨b, off, y, rfl, hB, HY, e0, e1, e2, e3⟩ := (hx.below hb).col hltn
      go_wp2_with fail
      refine (valid_any x f3 _).mono ?_
      rintro e w1 ⟨rfl, hb1⟩
      have hbb := below_trans (below_trans (below_trans hb below_alloc) below_alloc) hb1
      obtain ⟨hc1, hf1⟩ := bcell hb1
      clear hb1 e0 e1 e2 f0 f1 f2
      have HC : Hid (firstErr (rowF cols) 0 row = if cellErr y x = 0 then firstErr (rowF cols) (k + 1) (row.drop (k + 1)) else cellErr y x) := hide (by
        rw [HE.out, HX.out]
        by_cases hz : cellErr y x = 0
        · rw [if_pos hz]; exact firstErr_zero (by rw [rowF_eq HY.out, hz])
        · rw [if_neg hz]; exact firstErr_err (rowF_eq HY.out) hz)
      cases hv : valid x
      · have he : Hid (8 = rowErr cols row) := hide (by rw [HE0.out, HC.out]; simp [cellErr, hv])
        go_wp2
        go_ret
        exact ⟨ret_int he.out, hbb⟩
      · cases hz : (x.kind == 0)
        · cases hq : (x.kind == y.kind)
          · have he : Hid (7 = rowErr cols row) := hide (by
              have e1 : ¬ x.kind = 0 := by simpa using hz
              have e2 : ¬ x.kind = y.kind := by simpa using hq
              rw [HE0.out, HC.out]; simp [cellErr, hv, e1, e2])
            go_wp2
            all_goals (try (exfalso; go_light; simp_all; done))
            all_goals
              go_ret
              exact ⟨ret_int he.out, hbb⟩
          · have he : Hid (cellErr y x = 0) := hide (by
              have e1 : ¬ x.kind = 0 := by simpa using hz
              have e2 : x.kind = y.kind := by simpa using hq
              simp [cellErr, hv, ← e2, e1])
            go_wp2
            all_goals (try (exfalso; go_light; simp_all; done))
            all_goals
              go_roundw
              case rel => exact ⟨k + 1, by omega, by go_num, by rw [HC.out, if_pos he.out], hbb⟩
              case measure => simp [intOf]; omega
        · cases hn : y.nullable
          · have he : Hid (7 = rowErr cols row) := hide (by
              have e1 : x.kind = 0 := by simpa using hz
              rw [HE0.out, HC.out]; simp [cellErr, hv, e1, hn])
            go_wp2
            all_goals (try (exfalso; go_light; simp_all; done))
            all_goals
              go_ret
              exact ⟨ret_int he.out, hbb⟩
          · have he : Hid (cellErr y x = 0) := hide (by
              have e1 : x.kind = 0 := by simpa using hz
              simp [cellErr, hv, e1, hn])
            go_wp2
            all_goals (try (exfalso; go_light; simp_all; done))
            all_goals
              go_roundw
              case rel => exact ⟨k + 1, by omega, by go_num, by rw [HC.out, if_pos he.out], hbb⟩
              case measure => simp [intOf]; omega
    · go_wp2
      go_ret
      exact ⟨ret_int (by rw [HE0.out, HE.out, drop_end hy.len (by omega), firstErr]), hb⟩
theorem below_any {B : Nat} {a w : World} (h : Below B a w) {n : Nat} : Below B a (w.drewN n) := below_drewN h n
set_option maxHeartbeats 2000000 in
set_option maxRecDepth 100000 in
theorem checkRow_ref (w : World) (A A' : Option Addr) (n n' c c' : Nat) (cols : List Col) (row : List Val) (hx : In w A n c cols) (hy : In w A' n' c' row) :
    Calls Try.prog 20 #[.slice A n c, .slice A' n' c'] w fun e w' => e = .returned (.int .i64 (rowErr cols row)) ∧ Below w.heap.size w w' := by
  have h63 := hx.le
  have h63' := hy.le
  have hlen := hide hx.len
  have hlen' := hide hy.len
  go_enter Try.func20, Try.ntmps20
  cases hs : ((n : Int) == (n' : Int))
  · have he : Hid (8 = rowErr cols row) := hide (by rw [rowErr, hlen.out, hlen'.out, if_pos (by simp at hs; omega)])
    go_wp2
    all_goals (try (exfalso; go_light; simp_all; done))
    go_ret
    exact ⟨ret_int he.out, Below.refl _ _⟩
  have HE0 : Hid (rowErr cols row = firstErr (rowF cols) 0 row) := hide (by rw [rowErr, hlen.out, hlen'.out, if_neg (by simp at hs; omega)]; rfl)
  have hnn : n = n' := by simp at hs; omega
  go_wp2
  all_goals (try (exfalso; go_light; simp_all; done))
  have HN := hide hnn
  clear hs hnn
  go_loopw [5] (fun i wr => ∃ k : Nat, k ≤ n' ∧ i = .int .i64 k ∧ firstErr (rowF cols) 0 row = firstErr (rowF cols) k (row.drop k) ∧ Below w.heap.size w wr) (fun i _ => n' - (intOf i).toNat)
  case atStart => exact ⟨0, Nat.zero_le _, rfl, rfl, Below.refl _ _⟩
  case round =>
    obtain ⟨k, hk, rfl, heq, hb⟩ := hrel
    have HE := hide heq
    clear heq
    by_cases hlt : k < n'
    · have hltn : k < n := by rw [HN.out]; exact hlt
      obtain ⟨b', off', x, rfl, hB', HX, f0, f1, f2, f3⟩ := (hy.below hb).val hlt
      obtain ⟨b, off, y, rfl, hB, HY, e0, e1, e2, e3⟩ := (hx.below hb).col hltn
      go_wp2_with fail
      refine (valid_ref x f3 _).mono ?_
      rintro e w1 ⟨rfl, hb1⟩
      have hbb := below_trans hb hb1
      replace e0 := bat hb1 hB e0
      replace e1 := bat hb1 hB e1
      replace e2 := bat hb1 hB e2
      replace f0 := bat hb1 hB' f0
      replace f1 := bat hb1 hB' f1
      replace f2 := bat hb1 hB' f2
      clear hb1
      have g0 : (0 : Int) ≤ (k : Int) := by omega
      have g1 : (k : Int) < (n : Int) := by omega
      have g2 : (k : Int) < (n' : Int) := by omega
      have HC : Hid (firstErr (rowF cols) 0 row = if cellErr y x = 0 then firstErr (rowF cols) (k + 1) (row.drop (k + 1)) else cellErr y x) := hide (by
        rw [HE.out, HX.out]
        by_cases hz : cellErr y x = 0
        · rw [if_pos hz]; exact firstErr_zero (by rw [rowF_eq HY.out, hz])
        · rw [if_neg hz]; exact firstErr_err (rowF_eq HY.out) hz)
      cases hv : valid x
      · have he : Hid (8 = rowErr cols row) := hide (by rw [HE0.out, HC.out]; simp [cellErr, hv])
        go_wp2
        go_ret
        first | exact ⟨ret_int he.out, hbb⟩ | exact ⟨ret_int he.out, below_any hbb⟩
      · cases hz : (x.kind == 0)
        · have hz' : (x.kind != 0) = true := by rw [bne, hz]; rfl
          cases hq : (x.kind == y.kind)
          · have hq' : (x.kind != y.kind) = true := by rw [bne, hq]; rfl
            have he : Hid (7 = rowErr cols row) := hide (by
              have e1 : ¬ x.kind = 0 := by simpa using hz
              have e2 : ¬ x.kind = y.kind := by simpa using hq
              rw [HE0.out, HC.out]; simp [cellErr, hv, e1, e2])
            go_wp2
            go_quiet (fail)
            go_wp2
            all_goals (try (exfalso; go_light; simp_all; done))
            all_goals
              go_ret
              first | exact ⟨ret_int he.out, hbb⟩ | exact ⟨ret_int he.out, below_any hbb⟩
          · have hq' : (x.kind != y.kind) = false := by rw [bne, hq]; rfl
            have he : Hid (cellErr y x = 0) := hide (by
              have e1 : ¬ x.kind = 0 := by simpa using hz
              have e2 : x.kind = y.kind := by simpa using hq
              simp [cellErr, hv, ← e2, e1])
            go_wp2
            go_quiet (fail)
            go_wp2
            all_goals (try (exfalso; go_light; simp_all; done))
            all_goals
              go_roundw
              case rel => exact ⟨k + 1, by omega, by go_num, by rw [HC.out, if_pos he.out], below_any hbb⟩
              case measure => simp [intOf]; omega
        · have hz' : (x.kind != 0) = false := by rw [bne, hz]; rfl
          cases hn : y.nullable
          · have he : Hid (7 = rowErr cols row) := hide (by
              have e1 : x.kind = 0 := by simpa using hz
              rw [HE0.out, HC.out]; simp [cellErr, hv, e1, hn])
            go_wp2
            go_quiet (fail)
            go_wp2
            all_goals (try (exfalso; go_light; simp_all; done))
            all_goals
              go_ret
              first | exact ⟨ret_int he.out, hbb⟩ | exact ⟨ret_int he.out, below_any hbb⟩
          · have he : Hid (cellErr y x = 0) := hide (by
              have e1 : x.kind = 0 := by simpa using hz
              simp [cellErr, hv, e1, hn])
            go_wp2
            go_quiet (fail)
            go_wp2
            all_goals (try (exfalso; go_light; simp_all; done))
            all_goals
              go_roundw
              case rel => exact ⟨k + 1, by omega, by go_num, by rw [HC.out, if_pos he.out], below_any hbb⟩
              case measure => simp [intOf]; omega
    · go_wp2
      go_ret
      exact ⟨ret_int (by rw [HE0.out, HE.out, drop_end hy.len (by omega), firstErr]), hb⟩
end Go.Proofs.Ytmnhahilbbnkkaa
