/-
  slices.Sort and slices.Compact at a row of ints of the call's own (the laying is what the kit's lay-plain.mjs wrote, numbers turned to names).
-/
import Derived.Shelf.Slices.CompactI
import Derived.Test.YtlbhnfnecfllkaaGreatSeqA
import Derived.Test.YtlbhnfnecfllkaaGreatGae
namespace Go.Proofs.YtlbhnfnecfllkaaGreat
open Go.RowKit Go.Maps Go.Shelf
set_option linter.unusedVariables false
set_option linter.unusedSimpArgs false
def layCmp_ren : Go.Shelf.Ren := ⟨fun | 20 => 57 | n => n, fun | 22 => 27 | 3 => 3 | 4 => 4 | 0 => 0 | n => n, fun | n => n⟩
theorem layCmp : Go.Proofs.Lays2.n20 Tryz.prog layCmp_ren := {
  mixed := by kernel_rfl
  f20 := Tryz.func57.trans (congrArg some (by kernel_rfl))
  t0 := Tryz.underlying0
  a0 := Tryz.isAgg0
  z0 := Tryz.sizeOf0
  v0 := Tryz.zeroValue0
  t3 := Tryz.underlying3
  a3 := Tryz.isAgg3
  z3 := Tryz.sizeOf3
  v3 := Tryz.zeroValue3
  t4 := Tryz.underlying4
  a4 := Tryz.isAgg4
  z4 := Tryz.sizeOf4
  v4 := Tryz.zeroValue4
  t22 := Tryz.underlying27
  a22 := Tryz.isAgg27
  z22 := Tryz.sizeOf27
  v22 := Tryz.zeroValue27
  i3 := by kernel_rfl }
/-- A row of ints of the call's own. -/
abbrev OwnI (B : Nat) (w : World) (v : Value) (zs : List Int) : Prop := w.ownsRow B 3 1 v zs.length (zs.map encZ)
theorem sort_own (w : World) (B : Nat) (v : Value) (ss : List Int) (h : OwnI B w v ss) (hl : ss.length < 4611686018427387904) :
    Calls Tryz.prog 56 #[v] w fun e w' => e = .returned (.tuple #[]) ∧ w'.ownsRow B 3 1 v ss.length ((ss.mergeSort fun x y => decide (x ≤ y)).map encZ) ∧ w.grownBy w' v.ownBlock := by
  rcases h.2 with ⟨rfl, hz⟩ | ⟨gb, cap, cur, rfl, hbase, hgb, r1, r2, r3, r4⟩
  · have hss : ss = [] := List.eq_nil_of_length_eq_zero hz
    subst hss
    refine (AnyM.slices_Sort_int_none laySort none 0 w).mono ?_
    rintro e w' ⟨rfl, rfl⟩
    exact ⟨rfl, by simpa using World.ownsRow_nil w' B 3 1, World.grownBy.refl _ _⟩
  · have hH : Sort.Holds encZ w gb 0 ss.toArray := holds_of_block_i hgb (by simpa using r4)
    have hgl : gb < w.heap.size := (Array.getElem?_eq_some_iff.1 hgb).1
    refine (AnyM.slices_Sort_int laySort gb 0 cap ss w hH hgl hl).mono ?_
    rintro e w' ⟨rfl, nn, os, rfl⟩
    exact ⟨rfl, ownsRow_sorted_i (by simp) hbase hgb r1 r2 r3, grownBy_sorted_i _⟩
theorem heap_putI {w : World} {g n : Nat} {cur : Array Value} {e : TypeId} {fr : Nat × Nat} (d : Array Int) (hb : w.heap[g]? = some (.cells cur e fr)) :
    (Sort.putRow encZ (Sort.ahead w n) g 0 d).heap[g]? = some (.cells (Sort.putCells encZ 0 d cur) e fr) := by
  simp [Sort.putRow, Sort.mapBlock, Sort.ahead, Array.getElem?_modify, hb, Sort.onCells]
theorem grownBy_putI {w : World} {g n : Nat} (d : Array Int) : w.grownBy (Sort.putRow encZ (Sort.ahead w n) g 0 d) (some g) := by
  refine ⟨rfl, rfl, rfl, by simp, fun k hk hne => ?_⟩
  have : g ≠ k := fun e => hne (by rw [e])
  simp [Sort.putRow, Sort.mapBlock, Sort.ahead, Array.getElem?_modify, this]
theorem compact_len (zs : List Int) : (Lib.compact zs).length ≤ zs.length := by
  rw [Lib.compact, Lib.compactUpTo, List.length_map]
  exact Nat.le_trans (List.length_filter_le _ _) (by simp)
theorem compact_own (w : World) (B : Nat) (v : Value) (zs : List Int) (h : OwnI B w v zs) (hl : zs.length ≤ 4611686018427387904) :
    Calls Tryz.prog 57 #[v] w fun e w' => (∃ u, e = .returned u ∧ OwnI B w' u (Lib.compact zs)) ∧ w.grownBy w' v.ownBlock := by
  rcases h.2 with ⟨rfl, hz⟩ | ⟨gb, cap, cur, rfl, hbase, hgb, r1, r2, r3, r4⟩
  · have hss : zs = [] := List.eq_nil_of_length_eq_zero hz
    subst hss
    refine (Any.slices_Compact_int_empty layCmp none 0 w).mono ?_
    rintro e w' ⟨rfl, rfl⟩
    exact ⟨⟨_, rfl, World.ownsRow_nil _ _ _ _⟩, World.grownBy.refl _ _⟩
  · have hH : Sort.Holds encZ w gb 0 zs.toArray := holds_of_block_i hgb (by simpa using r4)
    refine (Any.slices_Compact_int layCmp gb 0 cap zs w hH (by omega) r1).mono ?_
    rintro e w' ⟨rfl, q, rfl⟩
    have hcl := compact_len zs
    have hts : (Lib.compact zs ++ List.replicate (zs.length - (Lib.compact zs).length) 0).length = zs.length := by simp; omega
    have htk := take_putCells_i cur (Lib.compact zs ++ List.replicate (zs.length - (Lib.compact zs).length) 0) (by rw [hts]; omega)
    refine ⟨⟨_, rfl, by simp, .inr ⟨gb, cap, _, rfl, hbase, heap_putI _ hgb, by omega, r2, by simp [Sort.putCells, r3], ?_⟩⟩, grownBy_putI _⟩
    rw [hts] at htk
    have h2 := congrArg (List.take (Lib.compact zs).length) htk
    rw [List.take_take, Nat.min_eq_left hcl, ← List.map_take, List.take_left] at h2
    rw [Nat.mul_one]
    exact h2
/-- Of an ascending list compact leaves each number once. -/
theorem compact_upTo {d : Array Int} (hs : ∀ i j, i ≤ j → j < d.size → d[i]! ≤ d[j]!) : ∀ m, m ≤ d.size → Asc (Lib.compactUpTo d m) ∧ (∀ x, x ∈ Lib.compactUpTo d m ↔ ∃ j, j < m ∧ d[j]! = x)
  | 0, _ => ⟨by simp [Asc, Lib.compactUpTo], by simp [Lib.compactUpTo]⟩
  | m + 1, h => by
    obtain ⟨h1, h2⟩ := compact_upTo hs m (by omega)
    rw [Lib.compactUpTo_succ]
    by_cases hk : Lib.keeps d m = true
    · rw [if_pos hk]
      have hk' : m = 0 ∨ d[m]! ≠ d[m - 1]! := by simpa [Lib.keeps] using hk
      refine ⟨List.pairwise_append.2 ⟨h1, List.pairwise_singleton _ _, fun a ha b hb => ?_⟩, fun x => ?_⟩
      · simp at hb; subst hb
        obtain ⟨j, hj, rfl⟩ := (h2 a).1 ha
        have a1 := hs j (m - 1) (by omega) (by omega)
        have a2 := hs (m - 1) m (by omega) (by omega)
        rcases hk' with q | q
        · omega
        · omega
      · simp only [List.mem_append, List.mem_singleton, h2]
        constructor
        · rintro (⟨j, hj, e⟩ | e)
          · exact ⟨j, by omega, e⟩
          · exact ⟨m, by omega, e.symm⟩
        · rintro ⟨j, hj, e⟩
          by_cases q : j = m
          · subst q; exact .inr e.symm
          · exact .inl ⟨j, by omega, e⟩
    · rw [if_neg hk, List.append_nil]
      have hk' : ¬ (m = 0 ∨ d[m]! ≠ d[m - 1]!) := by simpa [Lib.keeps] using hk
      refine ⟨h1, fun x => ?_⟩
      rw [h2]
      constructor
      · rintro ⟨j, hj, e⟩; exact ⟨j, by omega, e⟩
      · rintro ⟨j, hj, e⟩
        by_cases q : j = m
        · subst q
          have e2 : d[j]! = d[j - 1]! := by
            by_cases g : d[j]! = d[j - 1]!
            · exact g
            · exact absurd (.inr g) hk'
          exact ⟨j - 1, by omega, by rw [← e2]; exact e⟩
        · exact ⟨j, by omega, e⟩
theorem compact_sorted {zs : List Int} (h : zs.Pairwise (· ≤ ·)) : Asc (Lib.compact zs) ∧ ∀ x, x ∈ Lib.compact zs ↔ x ∈ zs := by
  have hs : ∀ i j, i ≤ j → j < zs.toArray.size → zs.toArray[i]! ≤ zs.toArray[j]! := fun i j hij hj => by
    have hj' : j < zs.length := by simpa using hj
    have e1 : zs.toArray[i]! = zs[i]'(by omega) := by simp [show i < zs.length by omega]
    have e2 : zs.toArray[j]! = zs[j]'hj' := by simp [hj']
    rw [e1, e2]
    by_cases q : i = j
    · subst q; exact Int.le_refl _
    · exact List.pairwise_iff_getElem.1 h i j (by omega) hj' (by omega)
  obtain ⟨h1, h2⟩ := compact_upTo hs zs.length (by simp)
  refine ⟨h1, fun x => (h2 x).trans ?_⟩
  constructor
  · rintro ⟨j, hj, rfl⟩
    have e2 : zs.toArray[j]! = zs[j]'hj := by simp [hj]
    rw [e2]; exact List.getElem_mem _
  · intro hx
    obtain ⟨j, hj, rfl⟩ := List.mem_iff_getElem.1 hx
    exact ⟨j, hj, by simp [hj]⟩
end Go.Proofs.YtlbhnfnecfllkaaGreat
