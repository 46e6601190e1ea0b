/-
  slices.CompareFunc over values, value.CompareRows.
-/
import Derived.Test.YtmnhahilbbnkkaaVal
namespace Go.Proofs.Ytmnhahilbbnkkaa
set_option linter.unusedVariables false
set_option linter.unusedSimpArgs false
open Go.RowKit
theorem rel_bool {p : Prop} {b : Bool} (h : b = true) (hp : b = true → p) : p := hp h
set_option maxRecDepth 100000 in
theorem compareFunc_any (w : World) (A A' : Option Addr) (n n' c c' : Nat) (xs ys : List Val) (hx : In w A n c xs) (hy : In w A' n' c' ys) :
    Calls Try.prog 40 #[.slice A n c, .slice A' n' c', .func (.func 41) #[] #[]] w
      fun e w' => e = .returned (.int .i64 (cmpRows xs ys)) ∧ Below w.heap.size w w' := by
  have h63 := hx.le
  have h63' := hy.le
  go_enter Try.func40, Try.ntmps40
  go_wp2
  go_loopw [13] (fun i wr => ∃ k : Nat, k ≤ n ∧ k ≤ n' ∧ i = .int .i64 k ∧ cmpRows xs ys = cmpRows (xs.drop k) (ys.drop k) ∧ Below w.heap.size w wr) (fun i _ => n - (intOf i).toNat)
  case atStart => exact ⟨0, Nat.zero_le _, Nat.zero_le _, rfl, rfl, Below.refl _ _⟩
  case round =>
    obtain ⟨k, hk, hk', rfl, heq, hb⟩ := hrel
    have HE := hide heq
    clear heq
    by_cases hlt : k < n
    · obtain ⟨b, off, x, rfl, hB, HX, e0, e1, e2, e3⟩ := (hx.below hb).val hlt
      by_cases hlt' : k < n'
      · obtain ⟨b', off', y, rfl, hB', HY, f0, f1, f2, f3⟩ := (hy.below hb).val hlt'
        go_wp2_with fail
        refine (cmp_val x y _).mono ?_
        rintro e w1 ⟨rfl, hb1⟩
        have hbb := below_trans (below_trans (below_trans hb below_alloc) below_alloc) hb1
        clear hb1 e0 e1 e2 f0 f1 f2
        by_cases hz : cmpVal x y = 0
        · rw [hz]
          go_wp2
          go_roundw
          case rel => exact ⟨k + 1, by omega, by omega, by go_num, by rw [HE.out, HX.out, HY.out, cmpRows, if_neg (by simp [hz])], hbb⟩
          case measure => simp [intOf]; omega
        · have hz' : (cmpVal x y == 0) = false := by simp [hz]
          go_wp2
          go_ret
          exact ⟨ret_int (by rw [HE.out, HX.out, HY.out, cmpRows, if_pos hz]), hbb⟩
      · go_wp2
        go_ret
        exact ⟨ret_int (by rw [HE.out, HX.out, drop_end hy.len (by omega), cmpRows]), hb.alloc hb.size _⟩
    · have hkn : n ≤ k := by omega
      by_cases hlt' : n < n'
      · go_wp2
        go_ret
        refine ⟨ret_int ?_, hb⟩
        rw [HE.out, drop_end hx.len hkn]
        have : ys.drop k ≠ [] := by intro h; have := congrArg List.length h; rw [List.length_drop, hy.len] at this; simp at this; omega
        match h : ys.drop k with
        | [] => exact absurd h this
        | _ :: _ => rw [cmpRows]
      · go_wp2
        go_ret
        refine ⟨ret_int ?_, hb⟩
        rw [HE.out, drop_end hx.len hkn, drop_end hy.len (by omega), cmpRows]
theorem compareRows_any (w : World) (A A' : Option Addr) (n n' c c' : Nat) (xs ys : List Val) (hx : In w A n c xs) (hy : In w A' n' c' ys) :
    Calls Try.prog 26 #[.slice A n c, .slice A' n' c'] w fun e w' => e = .returned (.int .i64 (cmpRows xs ys)) ∧ Below w.heap.size w w' := by
  go_enter Try.func26, Try.ntmps26
  go_wp2_with fail
  refine (compareFunc_any _ _ _ _ _ _ _ xs ys hx hy).mono ?_
  rintro e w1 ⟨rfl, hb1⟩
  go_wp2
  go_ret
  exact ⟨rfl, hb1⟩
end Go.Proofs.Ytmnhahilbbnkkaa
