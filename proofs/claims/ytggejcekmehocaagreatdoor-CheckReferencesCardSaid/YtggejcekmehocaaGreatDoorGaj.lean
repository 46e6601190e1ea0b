/-
  slices.Clone of values, partition.copied, byDay: the rows of each day, copied. Package bag: put, done, both. Package bag: merge, Add. (Printed by gen_bagm.py.) Plain law of bag.sum: a sorted list, its runs of equal rows summed. No program is in sight. (*warehouseworld.Numbers).Next; Instants, Value, Row. bag.Add, warehouseref6.Add.
-/
import Derived.Test.YtggejcekmehocaaGreatDoorGai
import Derived.Test.YtggejcekmehocaaGreatDoorGrp
import Derived.Test.YtggejcekmehocaaGreatDoorGad
import Derived.Test.YtggejcekmehocaaGreatDoorGag
import Derived.Test.YtggejcekmehocaaGreatDoorGac
import Derived.Test.YtggejcekmehocaaGreatDoorGah
namespace Go.Proofs.YtggejcekmehocaaGreatDoor
open Go.RowKit
set_option linter.unusedSimpArgs false
set_option linter.unusedVariables false
set_option maxHeartbeats 1000000 in
set_option maxRecDepth 100000 in
theorem clone_any (w : World) (A : Option Addr) (n c : Nat) (xs : List Val) (hx : In w A n c xs) (hn : n ≤ 1048576) :
    Calls Tryz.prog 63 #[.slice A n c] w fun e w' => (∃ A' c', e = .returned (.slice A' n c') ∧ Sl w' (New w w' 74) A' n c' xs) ∧ Below w.heap.size w w' := by
  obtain ⟨i0, hi, hz0, hz1, hz2⟩ := info_parts val_info
  have hlen := hide hx.len
  have kn := fun (W : World) (a : Option Addr) (l c : Nat) => Lib.run_eql_slice_nil (P := Tryz.prog) W 59 74 a l c 0 0 Tryz.underlying59
  cases A with
  | none =>
    have h0 : c = 0 := hx.2.2.2.1 rfl
    have h1 : n = 0 := by have := hx.2.1; omega
    subst h0 h1
    have he : xs = [] := List.eq_nil_of_length_eq_zero hx.1
    subst he
    go_enter Tryz.func63, Tryz.ntmps63
    go_wp2
    go_ret
    exact ⟨⟨_, _, rfl, Sl.nil_⟩, Below.refl _ _⟩
  | some ad =>
    obtain ⟨cs, HC, HS⟩ := Sl.cells (hx.below (below_alloc (o := .cells #[] 74)))
    have h1 := cells_vals HC
    have HC := hide HC
    go_enter Tryz.func63, Tryz.ntmps63
    go_wp2_with (at_builtin; refine wpList_append_src _ rfl (.tmp 5) (.tmp 6) 59 rfl w.heap.size 74 i0 _ 3 32 Tryz.underlying59 hi hz0 hz1 hz2 rfl (by decide) (.slice (some ⟨w.heap.size, 0, none⟩) 0 0) 0 [] rfl (World.ownsRow_made w #[] 0 (Nat.le_refl _) (by decide) rfl) (some ad) n c cs rfl (fun h => by cases h) HS h1 (by simp only [maxLen]; omega) (by omega) (by simp) ?_; intro v1 w3 hown1 hg1 hat1)
    have hb3 : Below w.heap.size w w3 := (below_alloc).grown hg1 (by simp) (fun j e => by simp [Value.ownBlock] at e; omega)
    have hown2 : w3.ownsRow w.heap.size 74 3 v1 n cs := by simpa using hown1
    obtain ⟨A', c', rfl, hsl, _⟩ := sl_of_own (S := fun _ => False) (T := New w w3 74) hown2 (cells_val_any HC.out) (fun _ h => h.elim) hlen.out (fun g hg ht => ⟨hg, ht⟩)
    go_ret
    exact ⟨⟨A', c', rfl, hsl⟩, hb3⟩
end Go.Proofs.YtggejcekmehocaaGreatDoor

namespace Go.Proofs.YtggejcekmehocaaGreatDoor
open Go.RowKit
set_option linter.unusedSimpArgs false
set_option linter.unusedVariables false
theorem elem_ents : Elem Tryz.prog 30 61 2 32 := elem_mk _ Tryz.underlying30 ent_info rfl (by decide)
abbrev OE (B : Nat) (w : World) (v : Value) (zs : List Ent) : Prop := OL 61 B (fun _ => False) [74] w v zs
theorem FreshEnts.ol {w w' : World} {v : Value} {zs : List Ent} (h : FreshEnts w w' v zs) (hb : w.heap.size ≤ w'.heap.size) : OE w.heap.size w' v zs := by
  obtain ⟨cs, h1, h2⟩ := h
  exact ⟨⟨cs, h1, h2.mono fun k hk => .inr ⟨hk.1, _, by simp, hk.2⟩⟩, hb⟩
def putS (zs : List Ent) (row : List Val) (k : Int) : Bool × List Ent := if k < -65536 ∨ 65536 < k then (false, []) else (true, if k = 0 then zs else zs ++ [⟨row, k⟩])
def bothE (xs ys : List Ent) : Int := if bagErr xs ≠ 0 then bagErr xs else bagErr ys
end Go.Proofs.YtggejcekmehocaaGreatDoor

namespace Go.Proofs.YtggejcekmehocaaGreatDoor
open Go.RowKit
set_option linter.unusedSimpArgs false
set_option linter.unusedVariables false
def sg (s : Int) (l : List Ent) : List Ent := l.map fun x => ⟨x.row, s * x.count⟩
def MState (M rest : List Ent) (ok : Bool) (zs : List Ent) : Prop :=
  ∃ ws, M = ws ++ rest ∧ (ok = true → zs = keepF ws ∧ ∀ x ∈ ws, -65536 ≤ x.count ∧ x.count ≤ 65536) ∧ (ok = false → ∃ x ∈ ws, x.count < -65536 ∨ 65536 < x.count)
theorem MState.start (M : List Ent) : MState M M true [] := ⟨[], rfl, fun _ => ⟨rfl, by simp⟩, fun h => by cases h⟩
theorem MState.step {M rest rest' zs : List Ent} {x : Ent} (h : MState M rest true zs) (e : rest = x :: rest') : MState M rest' (putS zs x.row x.count).1 (putS zs x.row x.count).2 := by
  obtain ⟨ws, h1, h2, _⟩ := h
  obtain ⟨h3, h4⟩ := h2 rfl
  subst h3 e
  refine ⟨ws ++ [x], by rw [h1]; simp, fun q => ?_, fun q => ?_⟩
  · rw [putS] at q ⊢
    split at q
    · cases q
    · rename_i hr
      rw [if_neg hr]
      refine ⟨?_, fun y hy => ?_⟩
      · show (if x.count = 0 then keepF ws else keepF ws ++ [⟨x.row, x.count⟩]) = keepF (ws ++ [x])
        rw [show keepF (ws ++ [x]) = keepF ws ++ keepF [x] from List.filter_append ..]
        split
        · rename_i q; simp [keepF, q]
        · rename_i q; simp [keepF, q]
      · rcases List.mem_append.1 hy with hy | hy
        · exact h4 y hy
        · simp at hy; subst hy; omega
  · rw [putS] at q
    split at q
    · rename_i hr; exact ⟨x, by simp, hr⟩
    · cases q
theorem resErr_bad : ∀ (l : List Ent) (m : Nat), (∃ x ∈ l, x.count < -65536 ∨ 65536 < x.count) → resErr m l = true
  | [], m, h => by simp at h
  | x :: l, m, h => by
    rw [resErr]
    by_cases q : x.count = 0
    · rw [if_pos q]
      refine resErr_bad l m ?_
      obtain ⟨y, hy, h⟩ := h
      rcases List.mem_cons.1 hy with rfl | hy
      · omega
      · exact ⟨y, hy, h⟩
    · rw [if_neg q]
      obtain ⟨y, hy, h⟩ := h
      rcases List.mem_cons.1 hy with rfl | hy
      · rcases h with h | h <;> simp [h]
      · rw [resErr_bad l (m + 1) ⟨y, hy, h⟩]; simp
def mergS (M : List Ent) : Int × List Ent := if resErr 0 M = true then (2, []) else (0, keepF M)
theorem MState.bad {M rest zs : List Ent} (h : MState M rest false zs) : mergS M = (2, []) := by
  obtain ⟨ws, h1, _, h3⟩ := h
  obtain ⟨x, hx, h⟩ := h3 rfl
  rw [mergS, if_pos (resErr_bad _ _ ⟨x, by rw [h1]; simp [hx], h⟩)]
theorem mergS_bag {xs ys M : List Ent} (h : AscE M) (hc : ∀ r, cnt M r = cnt xs r + cnt ys r) : mergS M = bagS (xs ++ ys) := by
  rw [bagS_of h fun r => by rw [hc, cnt_app]]; rfl
end Go.Proofs.YtggejcekmehocaaGreatDoor

namespace Go.Proofs.YtggejcekmehocaaGreatDoor
set_option linter.unusedVariables false
set_option linter.unusedSimpArgs false
def sumC : List Ent → Int
  | [] => 0
  | x :: l => x.count + sumC l
theorem sumC_snoc (l : List Ent) (x : Ent) : sumC (l ++ [x]) = sumC l + x.count := by
  induction l with
  | nil => simp [sumC]
  | cons y l ih => rw [List.cons_append, sumC, sumC, ih]; omega
def RunE (ys : List Ent) (r : List Val) (k q : Nat) (n : Int) : Prop := ∃ seg, ys.drop k = seg ++ ys.drop q ∧ seg.length = q - k ∧ (∀ x ∈ seg, x.row = r) ∧ n = sumC seg ∧ -65536 * ((q : Int) - k) ≤ n ∧ n ≤ 65536 * ((q : Int) - k)
theorem RunE.start (ys : List Ent) (r : List Val) (k : Nat) : RunE ys r k k 0 := ⟨[], by simp, by simp, by simp, rfl, by omega, by omega⟩
theorem RunE.step {ys : List Ent} {r : List Val} {k q : Nat} {n : Int} (h : RunE ys r k q n) (hk : k ≤ q) {y : Ent} (hy : ys.drop q = y :: ys.drop (q + 1)) (hr : y.row = r) (hb : -65536 ≤ y.count ∧ y.count ≤ 65536) : RunE ys r k (q + 1) (n + y.count) := by
  obtain ⟨seg, h1, h2, h3, h4, h5, h6⟩ := h
  refine ⟨seg ++ [y], by rw [h1, hy]; simp, by simp; omega, fun x hx => ?_, by rw [sumC_snoc, h4], by omega, by omega⟩
  rcases List.mem_append.1 hx with hx | hx
  · exact h3 x hx
  · simp at hx; subst hx; exact hr
end Go.Proofs.YtggejcekmehocaaGreatDoor

namespace Go.Proofs.YtggejcekmehocaaGreatDoor
open Go.RowKit
set_option linter.unusedSimpArgs false
set_option linter.unusedVariables false
structure Num (w : World) (gb : Nat) (A : Option Addr) (n c : Nat) (l : List Int) (i : Nat) : Prop where
  c0 : w.cell? ⟨gb, 0, none⟩ = some (.slice A n c)
  c1 : w.cell? ⟨gb, 1, none⟩ = some (.int .i64 (i : Int))
  blk : RowBlk w gb 51 2
  lst : Sl w (fun k => k < gb) A n c l
  le : i ≤ n
  nn : n ≤ 1048576
theorem Num.lt {w : World} {gb : Nat} {A : Option Addr} {n c : Nat} {l : List Int} {i : Nat} (h : Num w gb A n c l i) : gb < w.heap.size := h.blk.lt
theorem Num.inn {w : World} {gb : Nat} {A : Option Addr} {n c : Nat} {l : List Int} {i : Nat} (h : Num w gb A n c l i) : In w A n c l := Sl.mono (fun k hk => Nat.lt_trans hk h.lt) h.lst
theorem Num.below {w w' : World} {gb : Nat} {A : Option Addr} {n c : Nat} {l : List Int} {i : Nat} (h : Num w gb A n c l i) (hb : Below w.heap.size w w') : Num w' gb A n c l i :=
  ⟨bat hb h.lt h.c0, bat hb h.lt h.c1, h.blk.below hb, h.lst.keep ((Same.below hb).sub fun k hk => Nat.lt_trans hk h.lt), h.le, h.nn⟩
theorem Num.grown {w w' : World} {gb : Nat} {A : Option Addr} {n c : Nat} {l : List Int} {i : Nat} {row : Option Nat} (h : Num w gb A n c l i) (hg : w.grownBy w' row) (hr : ∀ k, row = some k → gb < k) : Num w' gb A n c l i := by
  have hs : ∀ k, k ≤ gb → w'.heap[k]? = w.heap[k]? := fun k hk => hg.block k (Nat.lt_of_le_of_lt hk h.lt) fun e => by have := hr k e.symm; omega
  obtain ⟨cur, hc, hm⟩ := h.blk
  exact ⟨(World.cell?_of_block (a := ⟨gb, 0, none⟩) (hs gb (Nat.le_refl _))).trans h.c0, (World.cell?_of_block (a := ⟨gb, 1, none⟩) (hs gb (Nat.le_refl _))).trans h.c1, ⟨cur, (hs gb (Nat.le_refl _)).trans hc, hm⟩, h.lst.keep fun k hk => hs k (Nat.le_of_lt hk), h.le, h.nn⟩
theorem Num.made (w : World) (A : Option Addr) (n c : Nat) (l : List Int) (h : In w A n c l) (hn : n ≤ 1048576) : Num (w.alloc (.cells #[.slice A n c, .int .i64 0] 51)) w.heap.size A n c l 0 :=
  ⟨cells_new (heap_alloc_new w _) 0 _ rfl, cells_new (heap_alloc_new w _) 1 _ rfl, RowBlk.made w _ _ 2 rfl, h.keep (Same.below below_alloc), Nat.zero_le _, hn⟩
theorem grown_set {w : World} {b o : Nat} {v : Value} : w.grownBy (w.setCell ⟨b, o, none⟩ v) (some b) :=
  ⟨rfl, rfl, rfl, by simp, fun k _ hk => Below.heap_setCell _ _ _ k (fun e => hk (by rw [show k = b from e]))⟩
set_option maxHeartbeats 1000000 in
set_option maxRecDepth 100000 in
theorem next_any (w : World) (gb : Nat) (A : Option Addr) (n c : Nat) (l : List Int) (i : Nat) (h : Num w gb A n c l i) (m : Int) (hm : m ≤ 1099511627776) :
    Calls Tryz.prog 45 #[.pointer (some ⟨gb, 0, none⟩), .int .i64 m] w
      fun e w' => (∃ v i', e = .returned (.int .i64 v) ∧ 0 ≤ v ∧ (1 ≤ m → v < m) ∧ Num w' gb A n c l i') ∧ w.grownBy w' (some gb) := by
  have c0 := h.c0
  have c1 := h.c1
  have f1 := h.blk.frozen 1
  have hnn := h.nn
  have H := hide h
  clear h
  by_cases hi : n ≤ i
  · have q : decide (n ≤ i) = true := by simp; omega
    go_enter Tryz.func45, Tryz.ntmps45
    go_wp2
    go_quiet (fail)
    go_wp2
    all_goals (try (exfalso; go_light; simp_all; done))
    go_ret
    exact ⟨⟨0, i, rfl, by omega, by omega, H.out.below (below_drewN (Below.refl _ _) _)⟩, Below.grows (below_drewN (Below.refl _ _) _) _⟩
  have q : decide (n ≤ i) = false := by simp; omega
  by_cases hm1 : m < 1
  · have q1 : decide (m < 1) = true := by simp; omega
    go_enter Tryz.func45, Tryz.ntmps45
    go_wp2
    go_quiet (fail)
    go_wp2
    all_goals (try (exfalso; go_light; simp_all; done))
    go_ret
    exact ⟨⟨0, i, rfl, by omega, by omega, H.out.below (below_drewN (Below.refl _ _) _)⟩, Below.grows (below_drewN (Below.refl _ _) _) _⟩
  have q1 : decide (m < 1) = false := by simp; omega
  obtain ⟨b, off, x, rfl, hB, HX, e0, e1⟩ := H.out.inn.int (k := i) (by omega)
  have k1 : IntKind.i64.wrap ((i : Int) + 1) = (i : Int) + 1 := IntWalk.i64_in _ (by omega)
  have k2 : IntKind.i64.wrap ((i : Int) + 1 - 1) = (i : Int) := by rw [show (i : Int) + 1 - 1 = i by omega]; exact IntWalk.i64_in _ (by omega)
  have k6 : IntKind.i64.wrap (i : Int) = (i : Int) := IntWalk.i64_in _ (by omega)
  have k3 : (i : Int) < (n : Int) := by omega
  have k4 : (0 : Int) ≤ (i : Int) := by omega
  have k5 : i < n := by omega
  have hne : b ≠ gb := fun e => by
    have h1 := H.out.lst.2.2.2.2 (by omega)
    obtain ⟨b', off', e', hb', _⟩ := h1
    injection e' with e'
    injection e' with e1 e2
    subst e1
    omega
  have m0 : 0 ≤ x % m := Int.emod_nonneg _ (by omega)
  have m1 : x % m < m := Int.emod_lt_of_pos _ (by omega)
  go_enter Tryz.func45, Tryz.ntmps45
  go_wp2
  go_quiet (fail)
  go_wp2
  obtain ⟨w2, hw2⟩ : ∃ w2, w2 = (w.drewN nq).setCell ⟨gb, 1, none⟩ (.int .i64 ((i : Int) + 1)) := ⟨_, rfl⟩
  have d0 : w2.cell? ⟨gb, 0, none⟩ = some (.slice (some ⟨b, off, none⟩) n c) := by rw [hw2]; exact set_far c0 (.inr (by omega))
  have d1 : w2.cell? ⟨gb, 1, none⟩ = some (.int .i64 ((i : Int) + 1)) := by rw [hw2]; exact set_same (w := w.drewN nq) c1
  have d2 : w2.cell? ⟨b, off + i, none⟩ = some (.int .i64 x) := by rw [hw2]; exact set_far e0 (.inl hne)
  have hg2 : w.grownBy w2 (some gb) := by rw [hw2]; exact (Below.grows (below_drewN (Below.refl _ w) nq) _).trans grown_set
  have hs2 : ∀ k, k < gb → w2.heap[k]? = w.heap[k]? := fun k hk => hg2.block k (Nat.lt_trans hk H.out.lt) (fun e => by injection e with e; omega)
  have HN : Hid (Num w2 gb (some ⟨b, off, none⟩) n c l (i + 1)) := hide ⟨d0, by simpa using d1, by rw [hw2]; exact (H.out.blk.below (below_drewN (Below.refl _ w) nq)).set _ _ _, H.out.lst.keep fun k hk => hs2 k hk, by omega, H.out.nn⟩
  have HG := hide hg2
  rw [← hw2]
  clear hw2 hg2 hs2 c0 c1 e0 f1
  go_region_held3 (fun V => V.cell? ⟨gb, 0, none⟩ = some (.slice (some ⟨b, off, none⟩) n c) ∧ V.cell? ⟨gb, 1, none⟩ = some (.int .i64 ((i : Int) + 1)) ∧ V.cell? ⟨b, off + i, none⟩ = some (.int .i64 x)) (first | exact ⟨d0, d1, d2⟩) (first | (go_at_call 34; refine (placeW_any x m (by omega) hm _).mono ?_; rintro e w' ⟨rfl, rfl⟩))
  go_wp2
  go_ret
  exact ⟨⟨x % m, i + 1, rfl, m0, fun _ => m1, HN.out.below (Below.refl _ _).drew⟩, HG.out.trans (Below.grows (Below.refl _ _).drew _)⟩
def Off (w : World) {α : Type} [Rep α] (gb : Nat) (A : Option Addr) (n c : Nat) (xs : List α) : Prop := Sl w (fun k => k < w.heap.size ∧ k ≠ gb) A n c xs
section
variable {α : Type} [Rep α] {w w' : World} {gb : Nat} {A : Option Addr} {n c : Nat} {xs : List α}
theorem Off.inn (h : Off w gb A n c xs) : In w A n c xs := Sl.mono (fun k hk => hk.1) h
theorem Off.grown (h : Off w gb A n c xs) (hg : w.grownBy w' (some gb)) : Off w' gb A n c xs :=
  (h.keep (fun k hk => hg.block k hk.1 fun e => hk.2 (by injection e))).mono fun k hk => ⟨Nat.lt_of_lt_of_le hk.1 hg.size, hk.2⟩
theorem Off.below (h : Off w gb A n c xs) (hb : Below w.heap.size w w') : Off w' gb A n c xs := h.grown (Below.grows hb _)
end
theorem below_of_grown {B gb : Nat} {a w w' : World} (h : Below B a w) (hg : w.grownBy w' (some gb)) (hB : B ≤ w.heap.size) (hgb : B ≤ gb) : Below B a w' := h.grown hg hB fun k e => by injection e with e; omega
theorem flat_intsN : ∀ ks : List Int, ks.flatMap Flat.cs = ks.map (Value.int .i64)
  | [] => rfl
  | x :: l => by rw [List.flatMap_cons, List.map_cons, flat_intsN l]; rfl
set_option maxHeartbeats 1000000 in
set_option maxRecDepth 100000 in
theorem instants_any (w : World) : Calls Tryz.prog 113 #[] w fun e w' => (∃ l, e = .returned (.slice (some ⟨w.heap.size, 0, none⟩) 16 16) ∧ In w' (some ⟨w.heap.size, 0, none⟩) 16 16 l ∧ ∀ x ∈ l, (0 : Int) ≤ x ∧ x ≤ 575999999) ∧ Below w.heap.size w w' := by
  go_enter Tryz.func113, Tryz.ntmps113
  go_wp2
  go_loopw [2] (fun i wr => ∃ (k : Nat) (cur : Array Value), k ≤ 16 ∧ i = .int .i64 k ∧ wr.heap[w.heap.size]? = some (.cells cur 3 (0, 0)) ∧ cur.size = 16 ∧ (∀ j, j < 16 → ∃ x : Int, cur[j]? = some (.int .i64 x) ∧ 0 ≤ x ∧ x ≤ 153000 ∧ (k ≤ j → x ≤ 9000)) ∧ Below w.heap.size w wr) (fun i _ => 16 - (intOf i).toNat)
  case atStart =>
    refine ⟨0, _, by omega, rfl, heap_alloc_new w _, rfl, fun j hj => ?_, below_alloc⟩
    have : j = 0 ∨ j = 1 ∨ j = 2 ∨ j = 3 ∨ j = 4 ∨ j = 5 ∨ j = 6 ∨ j = 7 ∨ j = 8 ∨ j = 9 ∨ j = 10 ∨ j = 11 ∨ j = 12 ∨ j = 13 ∨ j = 14 ∨ j = 15 := by omega
    rcases this with rfl | rfl | rfl | rfl | rfl | rfl | rfl | rfl | rfl | rfl | rfl | rfl | rfl | rfl | rfl | rfl <;> exact ⟨_, rfl, by decide, by decide, fun _ => by decide⟩
  case round =>
    obtain ⟨k, cur, hk, rfl, hcur, hsz, hall, hb⟩ := hrel
    have HALL := hide hall
    have HB := hide hb
    have HC := hide hcur
    have HSZ := hide hsz
    clear hall hb
    by_cases hlt : k < 16
    · obtain ⟨x, hx, x0, _, x1⟩ := HALL.out k hlt
      have x1 := x1 (Nat.le_refl _)
      have k0 : (0 : Int) ≤ (k : Int) := by omega
      have k1 : (k : Int) < 16 := by omega
      have c0 : wr.cell? ⟨w.heap.size, k, none⟩ = some (.int .i64 x) := by rw [cell_of_row wr w.heap.size k cur 3 (0, 0) hcur]; exact hx
      have f0 : wr.frozen? ⟨w.heap.size, k, none⟩ = false := frozen_of_row wr w.heap.size k cur 3 hcur
      have q : IntKind.i64.wrap (x + 144000) = x + 144000 := IntWalk.i64_in _ (by omega)
      clear hcur hsz hx
      go_wp2
      go_roundw
      case rel =>
        refine ⟨k + 1, cur.setIfInBounds k (.int .i64 (x + 144000)), by omega, by go_num, by simp [World.setCell, Array.getElem?_modify, HC.out], by simp [HSZ.out], fun j hj => ?_, HB.out.setCell (Nat.le_refl _) _⟩
        by_cases hjk : k = j
        · subst hjk
          exact ⟨x + 144000, by rw [Array.getElem?_setIfInBounds_self]; simp [HSZ.out, hj], by omega, by omega, fun h => by omega⟩
        · obtain ⟨y, hy, y0, y1, y2⟩ := HALL.out j hj
          exact ⟨y, by rw [Array.getElem?_setIfInBounds_ne hjk]; exact hy, y0, y1, fun h => y2 (by omega)⟩
      case measure => simp [intOf]; omega
    · have HL : Hid (cur.toList = (cur.toList.map intOf).map (Value.int .i64)) := hide (by
        apply List.ext_getElem?
        intro j
        rw [List.getElem?_map, List.getElem?_map, Array.getElem?_toList]
        by_cases hj : j < 16
        · obtain ⟨y, hy, _⟩ := HALL.out j hj
          rw [hy]; rfl
        · rw [Array.getElem?_eq_none (by omega)]; rfl)
      have HM : Hid (∀ x ∈ cur.toList.map intOf, (0 : Int) ≤ x ∧ x ≤ 575999999) := hide (by
        intro x hx
        obtain ⟨v, hv, rfl⟩ := List.mem_map.1 hx
        obtain ⟨j, hj, rfl⟩ := List.getElem_of_mem hv
        rw [Array.length_toList, HSZ.out] at hj
        obtain ⟨y, hy, y0, y1, _⟩ := HALL.out j hj
        rw [Array.getElem?_eq_getElem (by omega)] at hy
        injection hy with hy
        rw [Array.getElem_toList, hy]
        show 0 ≤ y ∧ y ≤ _
        omega)
      have hk16 : k = 16 := by omega
      subst hk16
      clear hcur hsz
      go_wp2
      go_ret
      have hl := HL.out
      have hm := HM.out
      have hlen : (cur.toList.map intOf).length = 16 := by simp [HSZ.out]
      generalize cur.toList.map intOf = l at *
      refine ⟨⟨l, rfl, in_built HC.out ?_ hlen (by decide), hm⟩, HB.out⟩
      have h := cells_flat wr (fun k => k < wr.heap.size) (xs := l) (fun x hx => by have := hm x hx; exact ⟨by omega, by omega⟩)
      rw [flat_intsN] at h
      rw [hl]
      exact h
end Go.Proofs.YtggejcekmehocaaGreatDoor

namespace Go.Proofs.YtggejcekmehocaaGreatDoor
open Go.RowKit
set_option linter.unusedSimpArgs false
set_option linter.unusedVariables false
theorem bothE_zero {xs ys : List Ent} : bothE xs ys = 0 ↔ bagErr xs = 0 ∧ bagErr ys = 0 := by
  rw [bothE]
  split
  · rename_i h; exact ⟨fun q => absurd q h, fun q => absurd q.1 h⟩
  · rename_i h; exact ⟨fun q => ⟨by simpa using h, q⟩, fun q => q.2⟩
theorem addS_err {xs ys : List Ent} (h : bothE xs ys ≠ 0) : addS xs ys = (bothE xs ys, []) := by
  rw [bothE] at h ⊢
  rw [addS]
  split
  · rfl
  · rename_i q
    rw [if_neg q] at h
    rw [if_pos h]
theorem addS_ok {xs ys : List Ent} (h : bothE xs ys = 0) : addS xs ys = mergS (mergeL xs ys) := by
  obtain ⟨h1, h2⟩ := bothE_zero.1 h
  rw [addS, if_neg (by simpa using h1), if_neg (by simpa using h2), mergS_bag (mergeL_asc (bag_asc h1) (bag_asc h2)) (mergeL_cnt xs ys)]
theorem bag_bnd {b : List Ent} (h : bagErr b = 0) : Bnd 65536 b := fun x hx => by have := ent_cnt (bag_ents h x hx); omega
theorem bag_row {b : List Ent} (h : bagErr b = 0) : ∀ x ∈ b, x.row.length ≤ 12 := fun x hx => (ent_cnt (bag_ents h x hx)).2.2
theorem bag_le {b : List Ent} (h : bagErr b = 0) : b.length ≤ 4096 := (bagErr_iff.1 h).1
set_option maxRecDepth 100000 in
theorem two_ents (w : World) (A : Option Addr) (n c : Nat) (xs : List Ent) (hx : In w A n c xs) (A2 : Option Addr) (n2 c2 : Nat) (ys : List Ent) (hy : In w A2 n2 c2 ys) :
    Calls Tryz.prog 48 #[.slice A n c, .slice A2 n2 c2] w fun e w' => e = .returned (.int .i64 (bothE xs ys)) ∧ Below w.heap.size w w' := by
  have HF := hide (show bothE xs ys = if bagErr xs ≠ 0 then bagErr xs else bagErr ys from rfl)
  generalize bothE xs ys = r at *
  obtain ⟨E, hE⟩ : ∃ E, bagErr xs = E := ⟨_, rfl⟩
  have HE := hide hE
  rw [hE] at HF
  clear hE
  go_enter Tryz.func48, Tryz.ntmps48
  have HX := hide hx
  clear hx
  have HY := hide hy
  clear hy
  go_wp2_with fail
  refine (bag_ref _ _ _ _ xs HX.out).mono ?_
  rintro e w5 ⟨rfl, hb5⟩
  have HY := hide (HY.out.below hb5)
  have SG6 := hide hb5
  clear hb5
  rw [HE.out]
  by_cases h0 : E = 0
  · have HF2 := HF.out
    rw [if_neg (by simpa using h0)] at HF2
    subst h0
    go_wp2_with fail
    refine (bag_ref _ _ _ _ ys HY.out).mono ?_
    rintro e w7 ⟨rfl, hb7⟩
    have SG8 := hide (below_trans SG6.out hb7)
    clear hb7
    go_wp2
    go_ret
    exact ⟨ret_int HF2.symm, SG8.out⟩
  · have HF2 := HF.out
    rw [if_pos h0] at HF2
    subst HF2
    have q : (r != 0) = true := by simpa using h0
    go_wp2
    all_goals (try (exfalso; go_light; simp_all; done))
    go_ret
    exact ⟨rfl, SG6.out⟩
theorem result_mergS {M : List Ent} {m : Int} {zs : List Ent} (h : (m = 2 ∧ resErr 0 M = true ∧ zs = []) ∨ (m = 0 ∧ resErr 0 M = false ∧ zs = keepF M)) : mergS M = (m, zs) := by
  rw [mergS]
  rcases h with ⟨rfl, h, rfl⟩ | ⟨rfl, h, rfl⟩
  · rw [if_pos h]
  · rw [if_neg (by rw [h]; simp)]
theorem mergeL_lenP {xs ys : List Ent} : (mergeL xs ys).length ≤ xs.length + ys.length := mergeL_len _ xs ys (Nat.le_refl _)
theorem OwnEnts.out {w w' : World} {S : Nat → Prop} {v : Value} {zs : List Ent} (h : OwnEnts w w' S v zs) (hS : ∀ k, S k → k < w'.heap.size) : ∃ A c, v = .slice A zs.length c ∧ In w' A zs.length c zs := h.sl hS
set_option maxRecDepth 100000 in
theorem add_ref6 (w : World) (A : Option Addr) (n c : Nat) (xs : List Ent) (hx : In w A n c xs) (A2 : Option Addr) (n2 c2 : Nat) (ys : List Ent) (hy : In w A2 n2 c2 ys) :
    Calls Tryz.prog 22 #[.slice A n c, .slice A2 n2 c2] w fun e w' => (∃ v, e = .returned (.tuple #[v, .int .i64 (addS xs ys).1]) ∧ OE w.heap.size w' v (addS xs ys).2) ∧ Below w.heap.size w w' := by
  have H1 := hide (addS_err (xs := xs) (ys := ys))
  have H2 := hide (addS_ok (xs := xs) (ys := ys))
  have H3 := hide (bothE_zero (xs := xs) (ys := ys)).1
  obtain ⟨R, hR⟩ : ∃ R, addS xs ys = R := ⟨_, rfl⟩
  rw [hR] at H1 H2 ⊢
  obtain ⟨E, hE⟩ : ∃ E, bothE xs ys = E := ⟨_, rfl⟩
  have HE := hide hE
  rw [hE] at H1 H2 H3
  clear hE hR
  have hnx := hx.len
  have hny := hy.len
  go_enter Tryz.func22, Tryz.ntmps22
  have HX := hide hx
  clear hx
  have HY := hide hy
  clear hy
  go_wp2_with fail
  refine (two_ents _ _ _ _ xs HX.out _ _ _ ys HY.out).mono ?_
  rintro e w9 ⟨rfl, hb9⟩
  have HX := hide (HX.out.below hb9)
  have HY := hide (HY.out.below hb9)
  have SG10 := hide hb9
  clear hb9
  rw [HE.out]
  by_cases h0 : E = 0
  · have HRQ := hide (H2.out h0)
    obtain ⟨h1, h2⟩ := H3.out h0
    have h3 := bag_le h1
    have h4 := bag_le h2
    have HG1 := hide h1
    have HG2 := hide h2
    have HML := hide (mergeL_lenP (xs := xs) (ys := ys))
    have HMR : Hid (∀ x ∈ mergeL xs ys, x.row.length ≤ 4096) := hide fun x hx => by
      have := mergeF_rows (P := fun r => r.length ≤ 12) _ xs ys (bag_row h1) (bag_row h2) x hx
      omega
    subst h0
    have hsz := SG10.out.size
    clear h1 h2
    go_wp2_with fail
    refine (merge_ref _ _ _ _ _ _ _ xs ys HX.out HY.out (by omega) 65536 65536 (by omega) (by omega) (by omega) (by omega) (bag_bnd HG1.out) (bag_bnd HG2.out)).mono ?_
    rintro e w11 ⟨⟨v, rfl, ho⟩, hb11⟩
    have LST12 := hide hb11
    have SG12 := hide (below_trans SG10.out hb11)
    clear hb11
    obtain ⟨A6, c6, hv, hin⟩ := ho.sl (fun k hk => Nat.lt_of_lt_of_le hk LST12.out.size)
    subst hv
    have hml := HML.out
    have hsz2 := SG12.out.size
    clear ho
    generalize mergeL xs ys = M at *
    go_wp2_with fail
    refine (result_ref _ _ _ _ M hin (by omega) HMR.out).mono ?_
    rintro e w13 ⟨⟨v, m, zs, rfl, hf, hal⟩, hb13⟩
    have LST14 := hide hb13
    have SG14 := hide (below_trans SG12.out hb13)
    clear hb13
    have HR := hide (result_mergS hal)
    have HO := hide ((hf.ol LST14.out.size).rebase hsz2)
    clear hf hal
    obtain rfl := HRQ.out.trans HR.out
    go_wp2
    go_ret2
    exact ⟨⟨_, rfl, HO.out⟩, SG14.out⟩
  · obtain rfl := H1.out h0
    have q : (E != 0) = true := by simpa using h0
    go_wp2
    all_goals (try (exfalso; go_light; simp_all; done))
    go_ret2
    exact ⟨⟨_, rfl, OL.nil SG10.out.size⟩, SG10.out⟩
end Go.Proofs.YtggejcekmehocaaGreatDoor
