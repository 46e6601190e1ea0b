/-
  warehouseworld.Place, Zone, SameInts.
-/
import Derived.Test.YtlbhnfnecfllkaaGreatGae
import Derived.Test.YtlbhnfnecfllkaaGreatStk
import Derived.Test.YtlbhnfnecfllkaaGreatGac
import Derived.Test.YtlbhnfnecfllkaaGreatGad
namespace Go.Proofs.YtlbhnfnecfllkaaGreat
open Go.RowKit
set_option linter.unusedSimpArgs false
set_option linter.unusedVariables false

theorem place_eq (x n : Int) (hn : 1 ≤ n) : (x.tmod n + n).tmod n = x % n ∧ -n < x.tmod n ∧ x.tmod n < n := by
  have h1 : x.tmod n < n := Int.tmod_lt_of_pos x (by omega)
  have h2 : -n < x.tmod n := by
    have h := Int.tmod_lt_of_pos (-x) (show 0 < n by omega)
    rw [Int.neg_tmod] at h
    omega
  refine ⟨?_, h2, h1⟩
  rw [Int.tmod_eq_emod_of_nonneg (by omega), Int.add_emod_right]
  have h3 := Int.mul_tdiv_add_tmod x n
  calc x.tmod n % n = (x.tmod n + n * x.tdiv n) % n := by rw [Int.add_mul_emod_self_left]
    _ = x % n := by rw [show x.tmod n + n * x.tdiv n = x by omega]

set_option maxRecDepth 100000 in
theorem placeW_any (x n : Int) (hn : 1 ≤ n) (hm : n ≤ 1099511627776) (w : World) : Calls Tryz.prog 23 #[.int .i64 x, .int .i64 n] w fun e w' => e = .returned (.int .i64 (x % n)) ∧ w' = w := by
  obtain ⟨h1, h2, h3⟩ := place_eq x n hn
  have q1 : IntKind.i64.wrap (x.tmod n + n) = x.tmod n + n := IntWalk.i64_in _ (by omega)
  have q2 : IntKind.i64.wrap (x.tmod n) = x.tmod n := IntWalk.i64_in _ (by omega)
  have h4 : 0 ≤ x % n := Int.emod_nonneg _ (by omega)
  have h5 : x % n < n := Int.emod_lt_of_pos _ (by omega)
  have q3 : IntKind.i64.wrap (x % n) = x % n := IntWalk.i64_in _ (by omega)
  have hn0 : ¬ n = 0 := by omega
  go_enter Tryz.func23, Tryz.ntmps23
  go_wp2
  all_goals (try (exfalso; go_light; simp_all; done))
  go_ret
  exact ⟨rfl, rfl⟩

set_option maxHeartbeats 1000000 in
set_option maxRecDepth 100000 in
theorem sameInts_any (w : World) (A A2 : Option Addr) (n n2 c c2 : Nat) (xs ys : List Int) (hx : In w A n c xs) (hy : In w A2 n2 c2 ys) :
    Calls Tryz.prog 26 #[.slice A n c, .slice A2 n2 c2] w fun e w' => e = .returned (.bool (decide (xs = ys))) ∧ Below w.heap.size w w' := by
  have h63 := hx.le
  have hlx := hide hx.len
  have hly := hide hy.len
  by_cases hl : n = n2
  · subst hl
    go_enter Tryz.func26, Tryz.ntmps26
    go_wp2
    all_goals (try (exfalso; go_light; simp_all; done))
    go_loopw [5] (fun i wr => ∃ k : Nat, k ≤ n ∧ i = .int .i64 k ∧ xs.take k = ys.take k ∧ Below w.heap.size w wr) (fun i _ => n - (intOf i).toNat)
    case atStart => exact ⟨0, Nat.zero_le _, rfl, rfl, Below.refl _ _⟩
    case round =>
      obtain ⟨k, hk, rfl, heq, hb⟩ := hrel
      have HE := hide heq
      have HB := hide hb
      clear heq
      by_cases hlt : k < n
      · obtain ⟨b, off, x, rfl, hB, HX, e0, e1⟩ := (hx.below hb).int hlt
        obtain ⟨b', off', y, rfl, hB', HY, f0, f1⟩ := (hy.below hb).int hlt
        have k0 : (0 : Int) ≤ (k : Int) := by omega
        have k1 : (k : Int) < (n : Int) := by omega
        by_cases hxy : x = y
        · subst hxy
          have HN : Hid (xs.take (k + 1) = ys.take (k + 1)) := hide (by rw [List.take_add_one, List.take_add_one, (drop_get HX.out).1, (drop_get HY.out).1, HE.out])
          go_wp2
          go_quiet (fail)
          go_wp2
          all_goals (try (exfalso; go_light; simp_all; done))
          go_roundw
          case rel => exact ⟨k + 1, by omega, by go_num, HN.out, below_any HB.out⟩
          case measure => simp [intOf]; omega
        · have HN : Hid (decide (xs = ys) = false) := hide (by
            simp only [decide_eq_false_iff_not]
            intro e
            have h1 := (drop_get HX.out).1
            have h2 := (drop_get HY.out).1
            rw [e, h2] at h1
            injection h1 with h1
            exact hxy h1.symm)
          have q : (x != y) = true := by simpa using hxy
          clear hxy
          go_wp2
          go_quiet (fail)
          go_wp2
          all_goals (try (exfalso; go_light; simp_all; done))
          go_ret
          exact ⟨ret_bool HN.out.symm, below_any HB.out⟩
      · have HN : Hid (decide (xs = ys) = true) := hide (by
          have h := HE.out
          rw [List.take_of_length_le (by rw [hlx.out]; omega), List.take_of_length_le (by rw [hly.out]; omega)] at h
          simp [h])
        go_wp2
        go_ret
        exact ⟨ret_bool HN.out.symm, HB.out⟩
  · have HN : Hid (decide (xs = ys) = false) := hide (by
      simp only [decide_eq_false_iff_not]
      intro e
      exact hl (by rw [← hlx.out, ← hly.out, e]))
    have q : ((n : Int) != (n2 : Int)) = true := by simp; omega
    clear hl
    go_enter Tryz.func26, Tryz.ntmps26
    go_wp2
    all_goals (try (exfalso; go_light; simp_all; done))
    go_ret
    exact ⟨ret_bool HN.out.symm, Below.refl _ _⟩

def wZones : List Zone := [⟨⟨#[117, 116, 99]⟩, 0, []⟩, ⟨⟨#[101, 97, 115, 116]⟩, 60, []⟩, ⟨⟨#[119, 101, 115, 116]⟩, -300, [⟨146000, -360⟩]⟩, ⟨⟨#[98, 97, 99, 107]⟩, 120, [⟨145400, -600⟩, ⟨148000, 60⟩]⟩, ⟨⟨#[115, 107, 105, 112]⟩, 0, [⟨145440, 840⟩, ⟨145450, -840⟩]⟩]
theorem wZones_ok : ∀ Z ∈ wZones, zoneErr Z = 0 ∧ I64 Z.offset := by
  intro Z hZ
  simp only [wZones, List.mem_cons, List.not_mem_nil, or_false] at hZ
  rcases hZ with rfl | rfl | rfl | rfl | rfl <;> exact ⟨by decide, by decide, by decide⟩
theorem cells_shift (xs : List Shift) (w : World) (S : Nat → Prop) (h : ∀ x ∈ xs, I64 x.at_ ∧ I64 x.offset) : Cells w S (xs.flatMap Shift.cells) xs := by
  induction xs with
  | nil => rfl
  | cons x l ih => exact ⟨x.cells, _, rfl, ⟨rfl, h x (by simp)⟩, ih fun y hy => h y (by simp [hy])⟩
instance (n : Int) : Decidable (I64 n) := inferInstanceAs (Decidable (_ ∧ _))
set_option maxHeartbeats 2000000 in
set_option maxRecDepth 100000 in
theorem zoneW_any (z : Int) (w : World) : Calls Tryz.prog 42 #[.int .i64 z] w
    fun e w' => (∃ Z A m c, e = .returned (.agg #[.string Z.name, .int .i64 Z.offset, .slice A m c]) ∧ In w' A m c Z.shifts ∧ Z ∈ wZones ∧ ∀ b off, A = some ⟨b, off, none⟩ → w.heap.size ≤ b) ∧ Below w.heap.size w w' := by
  have h4 : 0 ≤ z % 5 := Int.emod_nonneg _ (by omega)
  have h5 : z % 5 < 5 := Int.emod_lt_of_pos _ (by omega)
  obtain hk | hk | hk | hk | hk : z % 5 = 0 ∨ z % 5 = 1 ∨ z % 5 = 2 ∨ z % 5 = 3 ∨ z % 5 = 4 := by omega
  all_goals
    clear h4 h5
    have HK := hide hk
    clear hk
    go_enter Tryz.func42, Tryz.ntmps42
    go_wp2_with fail
    refine (placeW_any z 5 (by omega) (by omega) _).mono ?_
    rintro e w1 ⟨rfl, rfl⟩
    rw [HK.out]
    go_wp2
  · refine bodyPost_ret (v := .agg #[.string ⟨#[117, 116, 99]⟩, .int .i64 0, .slice none 0 0]) (results_cells (cs := [.string ⟨#[117, 116, 99]⟩, .int .i64 0, .slice none 0 0]) rfl _ _ w.heap.size _ rfl (cells_new (heap_alloc_new w _)) Tryz.underlying25 rfl (by kernel_rfl)) rfl ⟨⟨⟨⟨#[117, 116, 99]⟩, 0, []⟩, _, _, _, rfl, In.nil_, by simp [wZones], fun b off h => by cases h⟩, below_alloc⟩
  · refine bodyPost_ret (v := .agg #[.string ⟨#[101, 97, 115, 116]⟩, .int .i64 60, .slice none 0 0]) (results_cells (cs := [.string ⟨#[101, 97, 115, 116]⟩, .int .i64 60, .slice none 0 0]) rfl _ _ w.heap.size _ rfl (cells_new (heap_alloc_new w _)) Tryz.underlying25 rfl (by kernel_rfl)) rfl ⟨⟨⟨⟨#[101, 97, 115, 116]⟩, 60, []⟩, _, _, _, rfl, In.nil_, by simp [wZones], fun b off h => by cases h⟩, below_alloc⟩
  · refine bodyPost_ret (v := .agg #[.string ⟨#[119, 101, 115, 116]⟩, .int .i64 (-300), .slice (some ⟨w.heap.size + 1, 0, none⟩) 1 1]) (results_cells (cs := [.string ⟨#[119, 101, 115, 116]⟩, .int .i64 (-300), .slice (some ⟨w.heap.size + 1, 0, none⟩) 1 1]) rfl _ _ w.heap.size _ rfl (cells_new (heap_alloc2 w _ _)) Tryz.underlying25 rfl (by kernel_rfl)) rfl ⟨⟨⟨⟨#[119, 101, 115, 116]⟩, -300, [⟨146000, -360⟩]⟩, _, _, _, rfl, in_built2 (fun S => cells_shift [⟨146000, -360⟩] _ S (by decide)) rfl (by decide), by simp [wZones], fun b off h => by injection h with h; injection h with h1 h2; omega⟩, below_alloc2⟩
  · refine bodyPost_ret (v := .agg #[.string ⟨#[98, 97, 99, 107]⟩, .int .i64 120, .slice (some ⟨w.heap.size + 1, 0, none⟩) 2 2]) (results_cells (cs := [.string ⟨#[98, 97, 99, 107]⟩, .int .i64 120, .slice (some ⟨w.heap.size + 1, 0, none⟩) 2 2]) rfl _ _ w.heap.size _ rfl (cells_new (heap_alloc2 w _ _)) Tryz.underlying25 rfl (by kernel_rfl)) rfl ⟨⟨⟨⟨#[98, 97, 99, 107]⟩, 120, [⟨145400, -600⟩, ⟨148000, 60⟩]⟩, _, _, _, rfl, in_built2 (fun S => cells_shift [⟨145400, -600⟩, ⟨148000, 60⟩] _ S (by decide)) rfl (by decide), by simp [wZones], fun b off h => by injection h with h; injection h with h1 h2; omega⟩, below_alloc2⟩
  · refine bodyPost_ret (v := .agg #[.string ⟨#[115, 107, 105, 112]⟩, .int .i64 0, .slice (some ⟨w.heap.size + 1, 0, none⟩) 2 2]) (results_cells (cs := [.string ⟨#[115, 107, 105, 112]⟩, .int .i64 0, .slice (some ⟨w.heap.size + 1, 0, none⟩) 2 2]) rfl _ _ w.heap.size _ rfl (cells_new (heap_alloc2 w _ _)) Tryz.underlying25 rfl (by kernel_rfl)) rfl ⟨⟨⟨⟨#[115, 107, 105, 112]⟩, 0, [⟨145440, 840⟩, ⟨145450, -840⟩]⟩, _, _, _, rfl, in_built2 (fun S => cells_shift [⟨145440, 840⟩, ⟨145450, -840⟩] _ S (by decide)) rfl (by decide), by simp [wZones], fun b off h => by injection h with h; injection h with h1 h2; omega⟩, below_alloc2⟩
end Go.Proofs.YtlbhnfnecfllkaaGreat
