/-
  (*warehouseworld.Numbers).Next; Instants, Value, Row.
-/
import Derived.Test.YtlbhnfnecfllkaaGreatWor
import Derived.Test.YtlbhnfnecfllkaaGreatGrp
namespace Go.Proofs.YtlbhnfnecfllkaaGreat
open Go.RowKit
set_option linter.unusedSimpArgs false
set_option linter.unusedVariables false

/-- Block gb holds numbers, of which i are used. -/
structure Num (w : World) (gb : Nat) (A : Option Addr) (n c : Nat) (l : List Int) (i : Nat) : Prop where
  c0 : w.cell? ⟨gb, 0, none⟩ = some (.slice A n c)
  c1 : w.cell? ⟨gb, 1, none⟩ = some (.int .i64 (i : Int))
  blk : RowBlk w gb 81 2
  lst : Sl w (fun k => k < gb) A n c l
  le : i ≤ n
  nn : n ≤ 1048576
theorem Num.lt {w : World} {gb : Nat} {A : Option Addr} {n c : Nat} {l : List Int} {i : Nat} (h : Num w gb A n c l i) : gb < w.heap.size := h.blk.lt
theorem Num.inn {w : World} {gb : Nat} {A : Option Addr} {n c : Nat} {l : List Int} {i : Nat} (h : Num w gb A n c l i) : In w A n c l := Sl.mono (fun k hk => Nat.lt_trans hk h.lt) h.lst
theorem Num.below {w w' : World} {gb : Nat} {A : Option Addr} {n c : Nat} {l : List Int} {i : Nat} (h : Num w gb A n c l i) (hb : Below w.heap.size w w') : Num w' gb A n c l i :=
  ⟨bat hb h.lt h.c0, bat hb h.lt h.c1, h.blk.below hb, h.lst.keep ((Same.below hb).sub fun k hk => Nat.lt_trans hk h.lt), h.le, h.nn⟩
theorem Num.grown {w w' : World} {gb : Nat} {A : Option Addr} {n c : Nat} {l : List Int} {i : Nat} {row : Option Nat} (h : Num w gb A n c l i) (hg : w.grownBy w' row) (hr : ∀ k, row = some k → gb < k) : Num w' gb A n c l i := by
  have hs : ∀ k, k ≤ gb → w'.heap[k]? = w.heap[k]? := fun k hk => hg.block k (Nat.lt_of_le_of_lt hk h.lt) fun e => by have := hr k e.symm; omega
  obtain ⟨cur, hc, hm⟩ := h.blk
  exact ⟨(World.cell?_of_block (a := ⟨gb, 0, none⟩) (hs gb (Nat.le_refl _))).trans h.c0, (World.cell?_of_block (a := ⟨gb, 1, none⟩) (hs gb (Nat.le_refl _))).trans h.c1, ⟨cur, (hs gb (Nat.le_refl _)).trans hc, hm⟩, h.lst.keep fun k hk => hs k (Nat.le_of_lt hk), h.le, h.nn⟩
theorem Num.made (w : World) (A : Option Addr) (n c : Nat) (l : List Int) (h : In w A n c l) (hn : n ≤ 1048576) : Num (w.alloc (.cells #[.slice A n c, .int .i64 0] 81)) w.heap.size A n c l 0 :=
  ⟨cells_new (heap_alloc_new w _) 0 _ rfl, cells_new (heap_alloc_new w _) 1 _ rfl, RowBlk.made w _ _ 2 rfl, h.keep (Same.below below_alloc), Nat.zero_le _, hn⟩
theorem grown_set {w : World} {b o : Nat} {v : Value} : w.grownBy (w.setCell ⟨b, o, none⟩ v) (some b) :=
  ⟨rfl, rfl, rfl, by simp, fun k _ hk => Below.heap_setCell _ _ _ k (fun e => hk (by rw [show k = b from e]))⟩

set_option maxHeartbeats 1000000 in
set_option maxRecDepth 100000 in
theorem next_any (w : World) (gb : Nat) (A : Option Addr) (n c : Nat) (l : List Int) (i : Nat) (h : Num w gb A n c l i) (m : Int) (hm : m ≤ 1099511627776) :
    Calls Tryz.prog 52 #[.pointer (some ⟨gb, 0, none⟩), .int .i64 m] w
      fun e w' => (∃ v i', e = .returned (.int .i64 v) ∧ 0 ≤ v ∧ (1 ≤ m → v < m) ∧ Num w' gb A n c l i') ∧ w.grownBy w' (some gb) := by
  have c0 := h.c0
  have c1 := h.c1
  have f1 := h.blk.frozen 1
  have hnn := h.nn
  have H := hide h
  clear h
  by_cases hi : n ≤ i
  · have q : decide (n ≤ i) = true := by simp; omega
    go_enter Tryz.func52, Tryz.ntmps52
    go_wp2
    go_quiet (fail)
    go_wp2
    all_goals (try (exfalso; go_light; simp_all; done))
    go_ret
    exact ⟨⟨0, i, rfl, by omega, by omega, H.out.below (below_drewN (Below.refl _ _) _)⟩, Below.grows (below_drewN (Below.refl _ _) _) _⟩
  have q : decide (n ≤ i) = false := by simp; omega
  by_cases hm1 : m < 1
  · have q1 : decide (m < 1) = true := by simp; omega
    go_enter Tryz.func52, Tryz.ntmps52
    go_wp2
    go_quiet (fail)
    go_wp2
    all_goals (try (exfalso; go_light; simp_all; done))
    go_ret
    exact ⟨⟨0, i, rfl, by omega, by omega, H.out.below (below_drewN (Below.refl _ _) _)⟩, Below.grows (below_drewN (Below.refl _ _) _) _⟩
  have q1 : decide (m < 1) = false := by simp; omega
  obtain ⟨b, off, x, rfl, hB, HX, e0, e1⟩ := H.out.inn.int (k := i) (by omega)
  have k1 : IntKind.i64.wrap ((i : Int) + 1) = (i : Int) + 1 := IntWalk.i64_in _ (by omega)
  have k2 : IntKind.i64.wrap ((i : Int) + 1 - 1) = (i : Int) := by rw [show (i : Int) + 1 - 1 = i by omega]; exact IntWalk.i64_in _ (by omega)
  have k6 : IntKind.i64.wrap (i : Int) = (i : Int) := IntWalk.i64_in _ (by omega)
  have k3 : (i : Int) < (n : Int) := by omega
  have k4 : (0 : Int) ≤ (i : Int) := by omega
  have k5 : i < n := by omega
  have hne : b ≠ gb := fun e => by
    have h1 := H.out.lst.2.2.2.2 (by omega)
    obtain ⟨b', off', e', hb', _⟩ := h1
    injection e' with e'
    injection e' with e1 e2
    subst e1
    omega
  have m0 : 0 ≤ x % m := Int.emod_nonneg _ (by omega)
  have m1 : x % m < m := Int.emod_lt_of_pos _ (by omega)
  go_enter Tryz.func52, Tryz.ntmps52
  go_wp2
  go_quiet (fail)
  go_wp2
  obtain ⟨w2, hw2⟩ : ∃ w2, w2 = (w.drewN nq).setCell ⟨gb, 1, none⟩ (.int .i64 ((i : Int) + 1)) := ⟨_, rfl⟩
  have d0 : w2.cell? ⟨gb, 0, none⟩ = some (.slice (some ⟨b, off, none⟩) n c) := by rw [hw2]; exact set_far c0 (.inr (by omega))
  have d1 : w2.cell? ⟨gb, 1, none⟩ = some (.int .i64 ((i : Int) + 1)) := by rw [hw2]; exact set_same (w := w.drewN nq) c1
  have d2 : w2.cell? ⟨b, off + i, none⟩ = some (.int .i64 x) := by rw [hw2]; exact set_far e0 (.inl hne)
  have hg2 : w.grownBy w2 (some gb) := by rw [hw2]; exact (Below.grows (below_drewN (Below.refl _ w) nq) _).trans grown_set
  have hs2 : ∀ k, k < gb → w2.heap[k]? = w.heap[k]? := fun k hk => hg2.block k (Nat.lt_trans hk H.out.lt) (fun e => by injection e with e; omega)
  have HN : Hid (Num w2 gb (some ⟨b, off, none⟩) n c l (i + 1)) := hide ⟨d0, by simpa using d1, by rw [hw2]; exact (H.out.blk.below (below_drewN (Below.refl _ w) nq)).set _ _ _, H.out.lst.keep fun k hk => hs2 k hk, by omega, H.out.nn⟩
  have HG := hide hg2
  rw [← hw2]
  clear hw2 hg2 hs2 c0 c1 e0 f1
  go_region_held3 (fun V => V.cell? ⟨gb, 0, none⟩ = some (.slice (some ⟨b, off, none⟩) n c) ∧ V.cell? ⟨gb, 1, none⟩ = some (.int .i64 ((i : Int) + 1)) ∧ V.cell? ⟨b, off + i, none⟩ = some (.int .i64 x)) (first | exact ⟨d0, d1, d2⟩) (first | (go_at_call 23; refine (placeW_any x m (by omega) hm _).mono ?_; rintro e w' ⟨rfl, rfl⟩))
  go_wp2
  go_ret
  exact ⟨⟨x % m, i + 1, rfl, m0, fun _ => m1, HN.out.below (Below.refl _ _).drew⟩, HG.out.trans (Below.grows (Below.refl _ _).drew _)⟩

/-- A list in blocks that are not gb. -/
def Off (w : World) {α : Type} [Rep α] (gb : Nat) (A : Option Addr) (n c : Nat) (xs : List α) : Prop := Sl w (fun k => k < w.heap.size ∧ k ≠ gb) A n c xs
section
variable {α : Type} [Rep α] {w w' : World} {gb : Nat} {A : Option Addr} {n c : Nat} {xs : List α}
theorem Off.inn (h : Off w gb A n c xs) : In w A n c xs := Sl.mono (fun k hk => hk.1) h
theorem Off.grown (h : Off w gb A n c xs) (hg : w.grownBy w' (some gb)) : Off w' gb A n c xs :=
  (h.keep (fun k hk => hg.block k hk.1 fun e => hk.2 (by injection e))).mono fun k hk => ⟨Nat.lt_of_lt_of_le hk.1 hg.size, hk.2⟩
theorem Off.below (h : Off w gb A n c xs) (hb : Below w.heap.size w w') : Off w' gb A n c xs := h.grown (Below.grows hb _)
end
theorem grown_below {w w' w1 : World} {row : Option Nat} (hg : w.grownBy w1 row) (hb : Below w1.heap.size w1 w') : w.grownBy w' row := hg.trans (Below.grows hb _)
/-- Seen from before block gb nothing has turned. -/
theorem below_of_grown {B gb : Nat} {a w w' : World} (h : Below B a w) (hg : w.grownBy w' (some gb)) (hB : B ≤ w.heap.size) (hgb : B ≤ gb) : Below B a w' := h.grown hg hB fun k e => by injection e with e; omega

theorem flat_intsN : ∀ ks : List Int, ks.flatMap Flat.cs = ks.map (Value.int .i64)
  | [] => rfl
  | x :: l => by rw [List.flatMap_cons, List.map_cons, flat_intsN l]; rfl
set_option maxHeartbeats 1000000 in
set_option maxRecDepth 100000 in
theorem instants_any (w : World) : Calls Tryz.prog 105 #[] w fun e w' => (∃ l, e = .returned (.slice (some ⟨w.heap.size, 0, none⟩) 16 16) ∧ In w' (some ⟨w.heap.size, 0, none⟩) 16 16 l ∧ ∀ x ∈ l, (0 : Int) ≤ x ∧ x ≤ 575999999) ∧ Below w.heap.size w w' := by
  go_enter Tryz.func105, Tryz.ntmps105
  go_wp2
  go_loopw [2] (fun i wr => ∃ (k : Nat) (cur : Array Value), k ≤ 16 ∧ i = .int .i64 k ∧ wr.heap[w.heap.size]? = some (.cells cur 3 (0, 0)) ∧ cur.size = 16 ∧ (∀ j, j < 16 → ∃ x : Int, cur[j]? = some (.int .i64 x) ∧ 0 ≤ x ∧ x ≤ 153000 ∧ (k ≤ j → x ≤ 9000)) ∧ Below w.heap.size w wr) (fun i _ => 16 - (intOf i).toNat)
  case atStart =>
    refine ⟨0, _, by omega, rfl, heap_alloc_new w _, rfl, fun j hj => ?_, below_alloc⟩
    have : j = 0 ∨ j = 1 ∨ j = 2 ∨ j = 3 ∨ j = 4 ∨ j = 5 ∨ j = 6 ∨ j = 7 ∨ j = 8 ∨ j = 9 ∨ j = 10 ∨ j = 11 ∨ j = 12 ∨ j = 13 ∨ j = 14 ∨ j = 15 := by omega
    rcases this with rfl | rfl | rfl | rfl | rfl | rfl | rfl | rfl | rfl | rfl | rfl | rfl | rfl | rfl | rfl | rfl <;> exact ⟨_, rfl, by decide, by decide, fun _ => by decide⟩
  case round =>
    obtain ⟨k, cur, hk, rfl, hcur, hsz, hall, hb⟩ := hrel
    have HALL := hide hall
    have HB := hide hb
    have HC := hide hcur
    have HSZ := hide hsz
    clear hall hb
    by_cases hlt : k < 16
    · obtain ⟨x, hx, x0, _, x1⟩ := HALL.out k hlt
      have x1 := x1 (Nat.le_refl _)
      have k0 : (0 : Int) ≤ (k : Int) := by omega
      have k1 : (k : Int) < 16 := by omega
      have c0 : wr.cell? ⟨w.heap.size, k, none⟩ = some (.int .i64 x) := by rw [cell_of_row wr w.heap.size k cur 3 (0, 0) hcur]; exact hx
      have f0 : wr.frozen? ⟨w.heap.size, k, none⟩ = false := frozen_of_row wr w.heap.size k cur 3 hcur
      have q : IntKind.i64.wrap (x + 144000) = x + 144000 := IntWalk.i64_in _ (by omega)
      clear hcur hsz hx
      go_wp2
      go_roundw
      case rel =>
        refine ⟨k + 1, cur.setIfInBounds k (.int .i64 (x + 144000)), by omega, by go_num, by simp [World.setCell, Array.getElem?_modify, HC.out], by simp [HSZ.out], fun j hj => ?_, HB.out.setCell (Nat.le_refl _) _⟩
        by_cases hjk : k = j
        · subst hjk
          exact ⟨x + 144000, by rw [Array.getElem?_setIfInBounds_self]; simp [HSZ.out, hj], by omega, by omega, fun h => by omega⟩
        · obtain ⟨y, hy, y0, y1, y2⟩ := HALL.out j hj
          exact ⟨y, by rw [Array.getElem?_setIfInBounds_ne hjk]; exact hy, y0, y1, fun h => y2 (by omega)⟩
      case measure => simp [intOf]; omega
    · have HL : Hid (cur.toList = (cur.toList.map intOf).map (Value.int .i64)) := hide (by
        apply List.ext_getElem?
        intro j
        rw [List.getElem?_map, List.getElem?_map, Array.getElem?_toList]
        by_cases hj : j < 16
        · obtain ⟨y, hy, _⟩ := HALL.out j hj
          rw [hy]; rfl
        · rw [Array.getElem?_eq_none (by omega)]; rfl)
      have HM : Hid (∀ x ∈ cur.toList.map intOf, (0 : Int) ≤ x ∧ x ≤ 575999999) := hide (by
        intro x hx
        obtain ⟨v, hv, rfl⟩ := List.mem_map.1 hx
        obtain ⟨j, hj, rfl⟩ := List.getElem_of_mem hv
        rw [Array.length_toList, HSZ.out] at hj
        obtain ⟨y, hy, y0, y1, _⟩ := HALL.out j hj
        rw [Array.getElem?_eq_getElem (by omega)] at hy
        injection hy with hy
        rw [Array.getElem_toList, hy]
        show 0 ≤ y ∧ y ≤ _
        omega)
      have hk16 : k = 16 := by omega
      subst hk16
      clear hcur hsz
      go_wp2
      go_ret
      have hl := HL.out
      have hm := HM.out
      have hlen : (cur.toList.map intOf).length = 16 := by simp [HSZ.out]
      generalize cur.toList.map intOf = l at *
      refine ⟨⟨l, rfl, in_built HC.out ?_ hlen (by decide), hm⟩, HB.out⟩
      have h := cells_flat wr (fun k => k < wr.heap.size) (xs := l) (fun x hx => by have := hm x hx; exact ⟨by omega, by omega⟩)
      rw [flat_intsN] at h
      rw [hl]
      exact h
end Go.Proofs.YtlbhnfnecfllkaaGreat
