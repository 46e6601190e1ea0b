/-
  warehouseref6.Sum and Normalize.
-/
import Derived.Test.YtlbhnfnecfllkaaGreatSort
import Derived.Test.YtlbhnfnecfllkaaGreatRes
import Derived.Test.YtlbhnfnecfllkaaGreatGac
namespace Go.Proofs.YtlbhnfnecfllkaaGreat
open Go.RowKit
set_option linter.unusedSimpArgs false
set_option linter.unusedVariables false

theorem mergeL_rows {P : List Val → Prop} : ∀ n xs ys, xs.length + ys.length ≤ n → (∀ x ∈ xs, P x.row) → (∀ x ∈ ys, P x.row) → ∀ x ∈ mergeL xs ys, P x.row
  | 0, xs, ys, h, _, _ => by
    rw [List.eq_nil_of_length_eq_zero (show xs.length = 0 by omega), List.eq_nil_of_length_eq_zero (show ys.length = 0 by omega)]
    intro x hx; cases hx
  | n + 1, [], [], _, _, _ => by intro x hx; cases hx
  | n + 1, [], y :: ys, h, hx, hy => by
    rw [mergeL_right]
    have ih := mergeL_rows n [] ys (by simp at h ⊢; omega) hx (fun z hz => hy z (List.mem_cons_of_mem _ hz))
    intro z hz
    cases hz with
    | head => exact hy y (List.mem_cons_self ..)
    | tail _ hz => exact ih z hz
  | n + 1, x :: xs, [], h, hx, hy => by
    rw [mergeL_left]
    have ih := mergeL_rows n xs [] (by simp at h ⊢; omega) (fun z hz => hx z (List.mem_cons_of_mem _ hz)) hy
    intro z hz
    cases hz with
    | head => exact hx x (List.mem_cons_self ..)
    | tail _ hz => exact ih z hz
  | n + 1, x :: xs, y :: ys, h, hx, hy => by
    have hx1 := hx x (List.mem_cons_self ..)
    have hy1 := hy y (List.mem_cons_self ..)
    have i1 := mergeL_rows n xs (y :: ys) (by simp at h ⊢; omega) (fun z hz => hx z (List.mem_cons_of_mem _ hz)) hy
    have i2 := mergeL_rows n (x :: xs) ys (by simp at h ⊢; omega) hx (fun z hz => hy z (List.mem_cons_of_mem _ hz))
    have i3 := mergeL_rows n xs ys (by simp at h ⊢; omega) (fun z hz => hx z (List.mem_cons_of_mem _ hz)) (fun z hz => hy z (List.mem_cons_of_mem _ hz))
    rw [mergeL_both]
    split
    · intro z hz
      cases hz with
      | head => exact hx1
      | tail _ hz => exact i1 z hz
    · split
      · intro z hz
        cases hz with
        | head => exact hy1
        | tail _ hz => exact i2 z hz
      · intro z hz
        cases hz with
        | head => exact hx1
        | tail _ hz => exact i3 z hz
theorem sortL_rows {P : List Val → Prop} : ∀ n (l : List Ent), l.length ≤ n → (∀ x ∈ l, P x.row) → ∀ x ∈ sortL l, P x.row
  | 0, l, h, _ => by
    rw [List.eq_nil_of_length_eq_zero (show l.length = 0 by omega)]
    intro x hx; cases hx
  | n + 1, l, h, hb => by
    by_cases hl : l.length < 2
    · rw [sortL_short hl]
      exact hb
    · rw [sortL_long hl]
      have h1 : (l.take (l.length / 2)).length = l.length / 2 := by rw [List.length_take]; omega
      have h2 : (l.drop (l.length / 2)).length = l.length - l.length / 2 := by rw [List.length_drop]
      have b1 := sortL_rows n (l.take (l.length / 2)) (by omega) (fun x hx => hb x (List.mem_of_mem_take hx))
      have b2 := sortL_rows n (l.drop (l.length / 2)) (by omega) (fun x hx => hb x (List.mem_of_mem_drop hx))
      exact mergeL_rows _ _ _ (Nat.le_refl _) b1 b2
theorem FreshEnts.base {w w0 w1 : World} {v : Value} {zs : List Ent} (h : FreshEnts w0 w1 v zs) (hb : w.heap.size ≤ w0.heap.size) : FreshEnts w w1 v zs := by
  obtain ⟨cs, h1, h2⟩ := h
  refine ⟨cs, ⟨h1.1, ?_⟩, h2.mono fun k hk => ⟨Nat.le_trans hb hk.1, hk.2⟩⟩
  rcases h1.2 with h | ⟨g, cap, cur, e, hg, r⟩
  · exact .inl h
  · exact .inr ⟨g, cap, cur, e, Nat.le_trans hb hg, r⟩
/-- What Sum gives, by the numbers: error m, entries zs. -/
def Summed (xs : List Ent) (m : Int) (zs : List Ent) : Prop := (m = 2 ∧ resErr 0 (sortL xs) = true ∧ zs = []) ∨ (m = 0 ∧ resErr 0 (sortL xs) = false ∧ zs = keepF (sortL xs))

set_option maxHeartbeats 2000000 in
set_option maxRecDepth 100000 in
theorem sum_ref (w : World) (A : Option Addr) (n c : Nat) (xs : List Ent) (hx : In w A n c xs) (hn : n ≤ 1048576) (hb : Bnd 65536 xs) (hrow : ∀ x ∈ xs, x.row.length ≤ 12) :
    Calls Tryz.prog 77 #[.slice A n c] w
      fun e w' => (∃ v m zs, e = .returned (.tuple #[v, .int .i64 m]) ∧ FreshEnts w w' v zs ∧ Summed xs m zs) ∧ Below w.heap.size w w' := by
  have h63 := hx.le
  have hlen := hide hx.len
  have hs := sorted_ref 65536 (by omega) (by omega) n w A n c xs (Nat.le_refl _) hn hx hb
  have hl := sortL_len _ xs (Nat.le_refl _)
  rw [hx.len] at hl
  have hr := hide (sortL_rows (P := fun l => l.length ≤ 4096) _ xs (Nat.le_refl _) (fun x hx => Nat.le_trans (hrow x hx) (by omega)))
  clear hrow hb
  go_enter Tryz.func77, Tryz.ntmps77
  go_wp2_with fail
  refine hs.mono ?_
  rintro e w1 ⟨⟨B, d, rfl, hin⟩, hb1⟩
  go_wp2_with fail
  refine (result_ref w1 B _ d (sortL xs) hin (by omega) hr.out).mono ?_
  rintro e w2 ⟨⟨v, m, zs, rfl, hf, hm⟩, hb2⟩
  have hbb := below_trans hb1 hb2
  have HF := hide (hf.base hb1.size)
  have HM : Hid (Summed xs m zs) := hide hm
  clear hf hm hin
  go_wp2
  go_ret2
  exact ⟨⟨_, _, zs, rfl, HF.out, HM.out⟩, hbb⟩

/-- What Normalize gives. -/
def Normed (xs : List Ent) (m : Int) (zs : List Ent) : Prop :=
  (firstErr (fun _ x => entErr x) 0 xs ≠ 0 ∧ m = firstErr (fun _ x => entErr x) 0 xs ∧ zs = []) ∨ (firstErr (fun _ x => entErr x) 0 xs = 0 ∧ Summed xs m zs)
theorem ents_fit : ∀ {xs : List Ent} {k : Nat}, firstErr (fun _ x => entErr x) k xs = 0 → Bnd 65536 xs ∧ ∀ x ∈ xs, x.row.length ≤ 12
  | [], _, _ => ⟨(fun x h => by cases h), (fun x h => by cases h)⟩
  | x :: xs, k, h => by
    have h0 : entErr x = 0 := by
      rw [firstErr] at h
      by_cases he : entErr x = 0
      · exact he
      · rw [if_pos he] at h; exact h
    rw [firstErr_zero h0] at h
    obtain ⟨i1, i2⟩ := ents_fit h
    rw [entErr_def] at h0
    have h1 : ¬ (12 < x.row.length ∨ x.count < -65536 ∨ 65536 < x.count) := fun e => by rw [if_pos e] at h0; omega
    refine ⟨fun z hz => ?_, fun z hz => ?_⟩
    · cases hz with
      | head => omega
      | tail _ hz => exact i1 z hz
    · cases hz with
      | head => omega
      | tail _ hz => exact i2 z hz

set_option maxHeartbeats 2000000 in
set_option maxRecDepth 100000 in
theorem normalize_ref (w : World) (A : Option Addr) (n c : Nat) (xs : List Ent) (hx : In w A n c xs) (hn : n ≤ 1048576) :
    Calls Tryz.prog 51 #[.slice A n c] w
      fun e w' => (∃ v m zs, e = .returned (.tuple #[v, .int .i64 m]) ∧ FreshEnts w w' v zs ∧ Normed xs m zs) ∧ Below w.heap.size w w' := by
  have h63 := hx.le
  have hlen := hide hx.len
  go_enter Tryz.func51, Tryz.ntmps51
  go_wp2
  go_loopw [4] (fun i wr => ∃ k : Nat, k ≤ n ∧ i = .int .i64 k ∧ firstErr (fun _ x => entErr x) 0 xs = firstErr (fun _ x => entErr x) k (xs.drop k) ∧ Below w.heap.size w wr) (fun i _ => n - (intOf i).toNat)
  case atStart => exact ⟨0, Nat.zero_le _, rfl, rfl, Below.refl _ _⟩
  case round =>
    obtain ⟨k, hk, rfl, heq, hb⟩ := hrel
    have HE := hide heq
    clear heq
    by_cases hlt : k < n
    · obtain ⟨b, off, x, rfl, hB, HX, A2, n2, c2, f0, f1, f2, f3⟩ := (hx.below hb).ent hlt
      have f3' := hide f3
      go_wp2_with fail
      refine (fits_ref wr A2 n2 c2 x f2 f3'.out).mono ?_
      rintro e w1 ⟨rfl, hb1⟩
      have hbb := below_trans hb hb1
      clear hb1 f0 f1 f2
      by_cases hv : entErr x = 0
      · have HR : Hid (firstErr (fun _ x => entErr x) 0 xs = firstErr (fun _ x => entErr x) (k + 1) (xs.drop (k + 1))) := hide (by rw [HE.out, HX.out]; exact firstErr_zero hv)
        rw [hv]
        go_wp2
        go_roundw
        case rel => exact ⟨k + 1, by omega, by go_num, HR.out, hbb⟩
        case measure => simp [intOf]; omega
      · have HR : Hid (firstErr (fun _ x => entErr x) 0 xs = entErr x) := hide (by rw [HE.out, HX.out]; exact firstErr_err rfl hv)
        have hv' : (entErr x == 0) = false := by simpa using hv
        generalize entErr x = m at *
        go_wp2
        all_goals (try (exfalso; go_light; simp_all; done))
        go_ret2
        exact ⟨⟨_, _, [], rfl, ⟨[], World.ownsRow_nil _ _ _ _, rfl⟩, .inl ⟨by rw [HR.out]; exact hv, HR.out.symm, rfl⟩⟩, hbb⟩
    · have HR : Hid (firstErr (fun _ x => entErr x) 0 xs = 0) := hide (by rw [HE.out, drop_end hx.len (by omega), firstErr])
      have hfit := hide (ents_fit HR.out)
      have hin := hide (hx.below hb)
      go_wp2_with fail
      refine (sum_ref wr A n c xs hin.out hn hfit.out.1 hfit.out.2).mono ?_
      rintro e w2 ⟨⟨v, m, zs, rfl, hf, hm⟩, hb2⟩
      have hbb := below_trans hb hb2
      have HF := hide (hf.base hb.size)
      have HM := hide hm
      clear hf hm
      go_wp2
      go_ret2
      exact ⟨⟨_, _, zs, rfl, HF.out, .inr ⟨HR.out, HM.out⟩⟩, hbb⟩

end Go.Proofs.YtlbhnfnecfllkaaGreat
