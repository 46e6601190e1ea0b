/-
  Plain functions, no program in sight: merging, sorting and normalizing lists of entries (chapter 6), as the reference does it.
-/
import Derived.Test.YtmnhahilbbnkkaaSpecA
namespace Go.Proofs.Ytmnhahilbbnkkaa
set_option linter.unusedVariables false
set_option linter.unusedSimpArgs false

def mergeF : Nat → List Ent → List Ent → List Ent
  | 0, _, _ => []
  | _ + 1, [], [] => []
  | f + 1, [], y :: ys => y :: mergeF f [] ys
  | f + 1, x :: xs, [] => x :: mergeF f xs []
  | f + 1, x :: xs, y :: ys =>
    if cmpRows x.row y.row < 0 then x :: mergeF f xs (y :: ys)
    else if 0 < cmpRows x.row y.row then y :: mergeF f (x :: xs) ys
    else ⟨x.row, x.count + y.count⟩ :: mergeF f xs ys
def mergeL (xs ys : List Ent) : List Ent := mergeF (xs.length + ys.length) xs ys
def Bnd (C : Int) (l : List Ent) : Prop := ∀ x ∈ l, -C ≤ x.count ∧ x.count ≤ C
theorem mergeF_more : ∀ f xs ys, xs.length + ys.length ≤ f → mergeF f xs ys = mergeF (xs.length + ys.length) xs ys
  | 0, xs, ys, h => by rw [show xs.length + ys.length = 0 from by omega]
  | f + 1, [], [], _ => by simp [mergeF]
  | f + 1, [], y :: ys, h => by
    simp only [List.length_nil, List.length_cons, Nat.zero_add] at h ⊢
    rw [mergeF, mergeF, mergeF_more f [] ys (by simp; omega)]
    simp
  | f + 1, x :: xs, [], h => by
    simp only [List.length_nil, List.length_cons, Nat.add_zero] at h ⊢
    rw [mergeF, mergeF, mergeF_more f xs [] (by simp; omega)]
    simp
  | f + 1, x :: xs, y :: ys, h => by
    simp only [List.length_cons] at h ⊢
    rw [show xs.length + 1 + (ys.length + 1) = (xs.length + (ys.length + 1)) + 1 from by omega, mergeF, mergeF]
    rw [mergeF_more f xs (y :: ys) (by simp; omega), mergeF_more f (x :: xs) ys (by simp; omega), mergeF_more f xs ys (by omega)]
    rw [mergeF_more (xs.length + (ys.length + 1)) (x :: xs) ys (by simp; omega), mergeF_more (xs.length + (ys.length + 1)) xs ys (by omega)]
    simp
theorem mergeL_nil : mergeL [] [] = [] := rfl
theorem mergeL_right (y : Ent) (ys : List Ent) : mergeL [] (y :: ys) = y :: mergeL [] ys := by
  unfold mergeL
  simp only [List.length_nil, List.length_cons, Nat.zero_add]
  rw [mergeF]
theorem mergeL_left (x : Ent) (xs : List Ent) : mergeL (x :: xs) [] = x :: mergeL xs [] := by
  unfold mergeL
  simp only [List.length_nil, List.length_cons, Nat.add_zero]
  rw [mergeF]
theorem mergeL_both (x y : Ent) (xs ys : List Ent) : mergeL (x :: xs) (y :: ys) =
    if cmpRows x.row y.row < 0 then x :: mergeL xs (y :: ys) else if 0 < cmpRows x.row y.row then y :: mergeL (x :: xs) ys else ⟨x.row, x.count + y.count⟩ :: mergeL xs ys := by
  unfold mergeL
  simp only [List.length_cons]
  rw [show xs.length + 1 + (ys.length + 1) = (xs.length + (ys.length + 1)) + 1 from by omega, mergeF]
  rw [mergeF_more (xs.length + (ys.length + 1)) (x :: xs) ys (by simp; omega), mergeF_more (xs.length + (ys.length + 1)) xs ys (by omega)]
  simp
theorem mergeL_len : ∀ n xs ys, xs.length + ys.length ≤ n → (mergeL xs ys).length ≤ xs.length + ys.length
  | 0, xs, ys, h => by
    rw [List.eq_nil_of_length_eq_zero (show xs.length = 0 by omega), List.eq_nil_of_length_eq_zero (show ys.length = 0 by omega)]
    simp [mergeL_nil]
  | n + 1, [], [], _ => by simp [mergeL_nil]
  | n + 1, [], y :: ys, h => by
    have := mergeL_len n [] ys (by simp at h ⊢; omega)
    rw [mergeL_right]; simp at *; omega
  | n + 1, x :: xs, [], h => by
    have := mergeL_len n xs [] (by simp at h ⊢; omega)
    rw [mergeL_left]; simp at *; omega
  | n + 1, x :: xs, y :: ys, h => by
    have h1 := mergeL_len n xs (y :: ys) (by simp at h ⊢; omega)
    have h2 := mergeL_len n (x :: xs) ys (by simp at h ⊢; omega)
    have h3 := mergeL_len n xs ys (by simp at h ⊢; omega)
    rw [mergeL_both]
    split
    · simp at *; omega
    · split
      · simp at *; omega
      · simp at *; omega
theorem mergeL_bnd {C D : Int} (hC : 0 ≤ C) (hD : 0 ≤ D) : ∀ n xs ys, xs.length + ys.length ≤ n → Bnd C xs → Bnd D ys → Bnd (C + D) (mergeL xs ys)
  | 0, xs, ys, h, _, _ => by
    rw [List.eq_nil_of_length_eq_zero (show xs.length = 0 by omega), List.eq_nil_of_length_eq_zero (show ys.length = 0 by omega)]
    intro x hx; cases hx
  | n + 1, [], [], _, _, _ => by intro x hx; cases hx
  | n + 1, [], y :: ys, h, hx, hy => by
    rw [mergeL_right]
    have ih := mergeL_bnd hC hD n [] ys (by simp at h ⊢; omega) hx (fun z hz => hy z (List.mem_cons_of_mem _ hz))
    intro z hz
    cases hz with
    | head => have := hy y (List.mem_cons_self ..); omega
    | tail _ hz => exact ih z hz
  | n + 1, x :: xs, [], h, hx, hy => by
    rw [mergeL_left]
    have ih := mergeL_bnd hC hD n xs [] (by simp at h ⊢; omega) (fun z hz => hx z (List.mem_cons_of_mem _ hz)) hy
    intro z hz
    cases hz with
    | head => have := hx x (List.mem_cons_self ..); omega
    | tail _ hz => exact ih z hz
  | n + 1, x :: xs, y :: ys, h, hx, hy => by
    have hx1 := hx x (List.mem_cons_self ..)
    have hy1 := hy y (List.mem_cons_self ..)
    have i1 := mergeL_bnd hC hD n xs (y :: ys) (by simp at h ⊢; omega) (fun z hz => hx z (List.mem_cons_of_mem _ hz)) hy
    have i2 := mergeL_bnd hC hD n (x :: xs) ys (by simp at h ⊢; omega) hx (fun z hz => hy z (List.mem_cons_of_mem _ hz))
    have i3 := mergeL_bnd hC hD n xs ys (by simp at h ⊢; omega) (fun z hz => hx z (List.mem_cons_of_mem _ hz)) (fun z hz => hy z (List.mem_cons_of_mem _ hz))
    rw [mergeL_both]
    split
    · intro z hz
      cases hz with
      | head => omega
      | tail _ hz => exact i1 z hz
    · split
      · intro z hz
        cases hz with
        | head => omega
        | tail _ hz => exact i2 z hz
      · intro z hz
        cases hz with
        | head => simp only; omega
        | tail _ hz => exact i3 z hz

def sortF : Nat → List Ent → List Ent
  | 0, l => l
  | f + 1, l => if l.length < 2 then l else mergeL (sortF f (l.take (l.length / 2))) (sortF f (l.drop (l.length / 2)))
def sortL (l : List Ent) : List Ent := sortF l.length l
theorem sortF_step (m : Nat) (l : List Ent) (h : ¬ l.length < 2) : sortF (m + 1) l = mergeL (sortF m (l.take (l.length / 2))) (sortF m (l.drop (l.length / 2))) := by rw [sortF, if_neg h]
theorem sortF_more : ∀ n (l : List Ent), l.length ≤ n → ∀ f, l.length ≤ f → sortF f l = sortF l.length l
  | 0, l, h, f, _ => by
    rw [List.eq_nil_of_length_eq_zero (show l.length = 0 by omega)]
    cases f with
    | zero => rfl
    | succ f => rw [sortF]; rfl
  | n + 1, l, h, f, hf => by
    by_cases hl : l.length < 2
    · match l, hl, f, hf with
      | [], _, 0, _ => rfl
      | [], _, f + 1, _ => rw [sortF]; rfl
      | [x], _, f + 1, _ => rw [sortF]; rfl
      | x :: y :: t, h, _, _ => simp at h; omega
    · obtain ⟨m, hm⟩ : ∃ m, l.length = m + 1 := ⟨l.length - 1, by omega⟩
      obtain ⟨k, rfl⟩ : ∃ k, f = k + 1 := ⟨f - 1, by omega⟩
      have h1 : (l.take (l.length / 2)).length ≤ m := by rw [List.length_take]; omega
      have h2 : (l.drop (l.length / 2)).length ≤ m := by rw [List.length_drop]; omega
      have e : sortF l.length l = sortF (m + 1) l := congrArg (fun n => sortF n l) hm
      rw [e, sortF_step k l hl, sortF_step m l hl]
      have i1 := sortF_more n (l.take (l.length / 2)) (by omega)
      have i2 := sortF_more n (l.drop (l.length / 2)) (by omega)
      rw [i1 k (by omega), i2 k (by omega), i1 m h1, i2 m h2]
theorem sortL_short {l : List Ent} (h : l.length < 2) : sortL l = l := by
  match l, h with
  | [], _ => rfl
  | [x], _ => rfl
  | x :: y :: t, h => simp at h; omega
theorem sortL_long {l : List Ent} (h : ¬ l.length < 2) : sortL l = mergeL (sortL (l.take (l.length / 2))) (sortL (l.drop (l.length / 2))) := by
  obtain ⟨m, hm⟩ : ∃ m, l.length = m + 1 := ⟨l.length - 1, by omega⟩
  have h1 : (l.take (l.length / 2)).length ≤ m := by rw [List.length_take]; omega
  have h2 : (l.drop (l.length / 2)).length ≤ m := by rw [List.length_drop]; omega
  have e : sortF l.length l = sortF (m + 1) l := congrArg (fun n => sortF n l) hm
  unfold sortL
  rw [e, sortF_step m l h, sortF_more m _ h1 m h1, sortF_more m _ h2 m h2]
theorem sortL_len : ∀ n (l : List Ent), l.length ≤ n → (sortL l).length ≤ l.length
  | 0, l, h => by rw [List.eq_nil_of_length_eq_zero (show l.length = 0 by omega)]; simp [sortL, sortF]
  | n + 1, l, h => by
    by_cases hl : l.length < 2
    · rw [sortL_short hl]; omega
    · rw [sortL_long hl]
      have h1 := sortL_len n (l.take (l.length / 2)) (by rw [List.length_take]; omega)
      have h2 := sortL_len n (l.drop (l.length / 2)) (by rw [List.length_drop]; omega)
      have h3 := mergeL_len _ (sortL (l.take (l.length / 2))) (sortL (l.drop (l.length / 2))) (Nat.le_refl _)
      rw [List.length_take] at h1
      rw [List.length_drop] at h2
      omega
theorem sortL_bnd {C : Int} (hC : 0 ≤ C) : ∀ n (l : List Ent), l.length ≤ n → Bnd C l → Bnd (C * (l.length : Int)) (sortL l)
  | 0, l, h, _ => by
    rw [List.eq_nil_of_length_eq_zero (show l.length = 0 by omega)]
    intro x hx; cases hx
  | n + 1, l, h, hb => by
    by_cases hl : l.length < 2
    · rw [sortL_short hl]
      intro x hx
      have h1 := hb x hx
      have h2 : l.length = 1 := by have := List.length_pos_of_mem hx; omega
      simp [h2]; omega
    · rw [sortL_long hl]
      have h1 : (l.take (l.length / 2)).length = l.length / 2 := by rw [List.length_take]; omega
      have h2 : (l.drop (l.length / 2)).length = l.length - l.length / 2 := by rw [List.length_drop]
      have b1 := sortL_bnd hC n (l.take (l.length / 2)) (by omega) (fun x hx => hb x (List.mem_of_mem_take hx))
      have b2 := sortL_bnd hC n (l.drop (l.length / 2)) (by omega) (fun x hx => hb x (List.mem_of_mem_drop hx))
      rw [h1] at b1
      rw [h2] at b2
      have := mergeL_bnd (Int.mul_nonneg hC (by omega)) (Int.mul_nonneg hC (by omega)) _ _ _ (Nat.le_refl _) b1 b2
      rw [← Int.mul_add] at this
      rw [show ((l.length / 2 : Nat) : Int) + ((l.length - l.length / 2 : Nat) : Int) = (l.length : Int) from by omega] at this
      exact this

/-- The bag of a list of entries whose equal rows have been joined: counts of 0 are left out. -/
def keepF (l : List Ent) : List Ent := l.filter fun x => !(x.count == 0)
/-- The error of 'result', after m entries: a count out of range, or too many. -/
def resErr : Nat → List Ent → Bool
  | _, [] => false
  | m, x :: l => if x.count = 0 then resErr m l else (decide (x.count < -65536) || decide (65536 < x.count) || decide (m = 4096)) || resErr (m + 1) l
end Go.Proofs.Ytmnhahilbbnkkaa
