/-
  bag.IsTable; warehouseref6.Validate, positive, IsTable.
-/
import Derived.Test.YtlbhnfnecfllkaaGac
namespace Go.Proofs.Ytlbhnfnecfllkaa
open Go.RowKit
set_option linter.unusedSimpArgs false
set_option linter.unusedVariables false

def negFrom : Nat → List Ent → Int
  | _, [] => -1
  | k, x :: l => if x.count < 0 then k else negFrom (k + 1) l
theorem negFrom_all (l : List Ent) : ∀ k, (decide (0 ≤ negFrom k l)) = !(l.all fun x => decide (0 ≤ x.count)) := by
  induction l with
  | nil => intro k; rfl
  | cons x l ih =>
    intro k
    rw [negFrom]
    by_cases h : x.count < 0
    · rw [if_pos h]
      have : ¬ 0 ≤ x.count := by omega
      simp [this]
    · rw [if_neg h, ih (k + 1)]
      have : 0 ≤ x.count := by omega
      simp [this]

def pos (b : List Ent) : Bool := b.all fun x => decide (0 < x.count)
theorem pos_cons (x : Ent) (l : List Ent) : pos (x :: l) = (decide (0 < x.count) && pos l) := rfl
/-- In a bag without errors no count is 0. -/
theorem noZero (b : List Ent) (l : List Ent) : ∀ k, firstErr (bagErr1 b) k l = 0 → ∀ x ∈ l, x.count ≠ 0 := by
  induction l with
  | nil => intro k _ x hx; cases hx
  | cons y l ih =>
    intro k h x hx
    by_cases hz : bagErr1 b k y = 0
    · rw [firstErr_zero hz] at h
      cases hx with
      | head =>
        intro h0
        rw [bagErr1_def] at hz
        by_cases h1 : entErr y = 0
        · rw [if_neg (by simp [h1]), if_pos h0] at hz; omega
        · rw [if_pos h1] at hz; exact h1 hz
      | tail _ hx => exact ih _ h x hx
    · rw [firstErr_err rfl hz] at h
      exact absurd h hz
theorem isTable_pos {b : List Ent} (h : bagErr b = 0) : isTable b = pos b := by
  have hz : ∀ x ∈ b, x.count ≠ 0 := by
    rw [bagErr] at h
    by_cases hl : 4096 < b.length
    · rw [if_pos hl] at h; omega
    · rw [if_neg hl] at h; exact noZero b b 0 h
  rw [isTable, h, pos]
  simp only [beq_self_eq_true, Bool.true_and]
  rw [Bool.eq_iff_iff, List.all_eq_true, List.all_eq_true]
  constructor
  · intro h x hx
    have := h x hx
    have := hz x hx
    simp only [decide_eq_true_eq] at *
    omega
  · intro h x hx
    have := h x hx
    simp only [decide_eq_true_eq] at *
    omega

end Go.Proofs.Ytlbhnfnecfllkaa
