/-
  partition.same: slices.EqualFunc of entries.
-/
import Derived.Test.YtlbhnfnecfllkaaGreatSame
import Derived.Test.YtlbhnfnecfllkaaGreatGaa
import Derived.Test.YtlbhnfnecfllkaaGreatGac
namespace Go.Proofs.YtlbhnfnecfllkaaGreat
open Go.RowKit
set_option linter.unusedSimpArgs false
set_option linter.unusedVariables false

/-- A bool is returned that tells whether P holds. -/
def TellsB (e : Ending) (P : Prop) : Prop := ∃ r, e = .returned (.bool r) ∧ (r = true ↔ P)
set_option maxRecDepth 100000 in
theorem sameEnt_fn (w : World) (x y : Ent) (A A2 : Option Addr) (n n2 c c2 : Nat) (hx : In w A n c x.row) (hy : In w A2 n2 c2 y.row) :
    Calls Tryz.prog 82 #[.agg #[.slice A n c, .int .i64 x.count], .agg #[.slice A2 n2 c2, .int .i64 y.count]] w fun e w' => TellsB e (x = y) ∧ Below w.heap.size w w' := by
  obtain ⟨xr, xc⟩ := x
  obtain ⟨yr, yc⟩ := y
  simp only at hx hy
  go_enter Tryz.func82, Tryz.ntmps82
  go_upto_region 1 with (fail)
  have HX := hide hx
  clear hx
  have HY := hide hy
  clear hy
  obtain ⟨W1, hW1⟩ : ∃ W, W = w.alloc (.cells #[.slice A n c, .int .i64 xc] 63) := ⟨_, rfl⟩
  have x0 : W1.cell? ⟨w.heap.size, 0, none⟩ = some (.slice A n c) := by rw [hW1]; simp [go_sem]
  have x1 : W1.cell? ⟨w.heap.size, 1, none⟩ = some (.int .i64 xc) := by rw [hW1]; simp [go_sem]
  have hbW1 : Below w.heap.size w W1 := by rw [hW1]; exact below_alloc
  have SZW1 : Hid (W1.heap.size = w.heap.size + 1) := hide (by rw [hW1]; exact World.size_alloc _ _)
  rw [← hW1]
  clear hW1
  have HX := hide (HX.out.below hbW1)
  have HY := hide (HY.out.below hbW1)
  have LST1 := hide hbW1
  have SG1 := hide hbW1
  clear hbW1
  have LX := lt_of_cell x0
  obtain ⟨W2, hW2⟩ : ∃ W, W = W1.alloc (.cells #[.slice A2 n2 c2, .int .i64 yc] 63) := ⟨_, rfl⟩
  have y0 : W2.cell? ⟨w.heap.size + 1, 0, none⟩ = some (.slice A2 n2 c2) := by rw [← SZW1.out, hW2]; simp [go_sem]
  have y1 : W2.cell? ⟨w.heap.size + 1, 1, none⟩ = some (.int .i64 yc) := by rw [← SZW1.out, hW2]; simp [go_sem]
  have hbW2 : Below W1.heap.size W1 W2 := by rw [hW2]; exact below_alloc
  have SZW2 : Hid (W2.heap.size = W1.heap.size + 1) := hide (by rw [hW2]; exact World.size_alloc _ _)
  rw [← hW2]
  clear hW2
  have HX := hide (HX.out.below hbW2)
  have HY := hide (HY.out.below hbW2)
  have x0 := bat hbW2 LX x0
  have x1 := bat hbW2 LX x1
  have LX := lt_of_cell x0
  have LST2 := hide hbW2
  have SG2 := hide (below_trans SG1.out hbW2)
  clear hbW2
  have LY := lt_of_cell y0
  by_cases hc : xc = yc
  · have q : (xc == yc) = true := by simpa using hc
    have HC := hide hc
    clear hc
    go_wp2_with fail
    refine (compareRows_any _ _ _ _ _ _ _ xr yr HX.out HY.out).mono ?_
    rintro e w3 ⟨rfl, hb3⟩
    have HX := hide (HX.out.below hb3)
    have HY := hide (HY.out.below hb3)
    have x0 := bat hb3 LX x0
    have x1 := bat hb3 LX x1
    have LX := lt_of_cell x0
    have y0 := bat hb3 LY y0
    have y1 := bat hb3 LY y1
    have LY := lt_of_cell y0
    have LST4 := hide hb3
    have SG4 := hide (below_trans SG2.out hb3)
    clear hb3
    have HZ := hide (@cr_zero xr yr)
    generalize cmpRows xr yr = r at *
    go_wp2
    all_goals (try (exfalso; go_light; simp_all; done))
    go_ret
    exact ⟨⟨_, rfl, by rw [ent_eq]; simp only [beq_iff_eq, HZ.out, HC.out, and_true]⟩, SG4.out⟩
  · have q : (xc == yc) = false := by simpa using hc
    have HC := hide hc
    clear hc
    go_wp2
    all_goals (try (exfalso; go_light; simp_all; done))
    go_ret
    exact ⟨⟨false, rfl, (fun h => by cases h), fun h => absurd (by first | exact h.2 | exact (ent_eq.1 h).2) HC.out⟩, SG2.out⟩
set_option maxHeartbeats 2000000 in
set_option maxRecDepth 100000 in
theorem equalFunc_ents (w : World) (A A2 : Option Addr) (n n2 c c2 : Nat) (xs ys : List Ent) (hx : In w A n c xs) (hy : In w A2 n2 c2 ys) :
    Calls Tryz.prog 81 #[.slice A n c, .slice A2 n2 c2, .func (.func 82) #[] #[]] w fun e w' => (∃ r, e = .returned (.bool r) ∧ (r = true ↔ xs = ys)) ∧ Below w.heap.size w w' := by
  have h63 := hx.le
  have hlx := hide hx.len
  have hly := hide hy.len
  by_cases hl : n = n2
  · subst hl
    go_enter Tryz.func81, Tryz.ntmps81
    go_wp2
    all_goals (try (exfalso; go_light; simp_all; done))
    have HXS := hide hx
    clear hx
    have HYS := hide hy
    clear hy
    go_loopw [17] (fun i wr => ∃ k : Nat, k ≤ n ∧ i = .int .i64 k ∧ xs.take k = ys.take k ∧ Below w.heap.size w wr) (fun i _ => n - (RowKit.intOf i).toNat)
    case atStart => exact ⟨0, Nat.zero_le _, rfl, rfl, Below.refl _ _⟩
    case round =>
      obtain ⟨k, hk, rfl, heq, hb⟩ := hrel
      have HE := hide heq
      clear heq
      have HXS := hide (HXS.out.below hb)
      have HYS := hide (HYS.out.below hb)
      have LST5 := hide hb
      have SG5 := hide hb
      clear hb
      by_cases hlt : k < n
      · obtain ⟨b, off, x, rfl, hB, HX, A3, n3, c3, e0, e1, e2, e3⟩ := HXS.out.ent hlt
        obtain ⟨b', off', y, rfl, hB', HY, A4, n4, c4, f0, f1, f2, f3⟩ := HYS.out.ent hlt
        have k0 : (0 : Int) ≤ (k : Int) := by omega
        have k1 : (k : Int) < (n : Int) := by omega
        go_wp2_with fail
        refine (sameEnt_fn _ x y A3 A4 n3 n4 c3 c4 (e2.below below_alloc2) (f2.below below_alloc2)).mono ?_
        rintro e w2 ⟨⟨r, rfl, hr⟩, hb2⟩
        have HR := hide hr
        have hb3 := below_trans below_alloc2 hb2
        clear hb2 hr e2 f2 e0 e1 f0 f1
        have HXS := hide (HXS.out.below hb3)
        have HYS := hide (HYS.out.below hb3)
        have LST6 := hide hb3
        have SG6 := hide (below_trans SG5.out hb3)
        clear hb3
        cases r
        · have HN : Hid (xs ≠ ys) := hide (drop_ne HX.out HY.out fun e => by have := HR.out.2 e; cases this)
          go_wp2
          all_goals (try (exfalso; go_light; simp_all; done))
          go_ret
          exact ⟨⟨false, rfl, (fun h => by cases h), fun h => absurd h HN.out⟩, SG6.out⟩
        · have HN : Hid (xs.take (k + 1) = ys.take (k + 1)) := hide (take_step HE.out HX.out (by rw [HR.out.1 rfl]; exact HY.out))
          go_wp2
          all_goals (try (exfalso; go_light; simp_all; done))
          go_roundw
          case rel => exact ⟨k + 1, by omega, by go_num, HN.out, SG6.out⟩
          case measure => simp [RowKit.intOf]; omega
      · have HN := hide (take_all (n := k) HE.out (by rw [hlx.out]; omega) (by rw [hly.out]; omega))
        go_wp2
        go_ret
        exact ⟨⟨true, rfl, fun _ => HN.out, fun _ => rfl⟩, SG5.out⟩
  · have HN : Hid (xs ≠ ys) := hide fun e => hl (by rw [← hlx.out, ← hly.out, e])
    have q : ((n : Int) != (n2 : Int)) = true := by simp; omega
    clear hl
    go_enter Tryz.func81, Tryz.ntmps81
    go_wp2
    all_goals (try (exfalso; go_light; simp_all; done))
    go_ret
    exact ⟨⟨false, rfl, (fun h => by cases h), fun h => absurd h HN.out⟩, Below.refl _ _⟩
theorem sameP_any (w : World) (A A2 : Option Addr) (n n2 c c2 : Nat) (xs ys : List Ent) (hx : In w A n c xs) (hy : In w A2 n2 c2 ys) :
    Calls Tryz.prog 58 #[.slice A n c, .slice A2 n2 c2] w fun e w' => (∃ r, e = .returned (.bool r) ∧ (r = true ↔ xs = ys)) ∧ Below w.heap.size w w' := by
  go_enter Tryz.func58, Tryz.ntmps58
  go_wp2_with fail
  refine (equalFunc_ents _ _ _ _ _ _ _ xs ys hx hy).mono ?_
  rintro e w7 ⟨⟨r, rfl, hr⟩, hb7⟩
  have LST8 := hide hb7
  have SG8 := hide hb7
  clear hb7
  have HR := hide hr
  clear hr
  go_wp2
  go_ret
  exact ⟨⟨r, rfl, HR.out⟩, SG8.out⟩
end Go.Proofs.YtlbhnfnecfllkaaGreat
