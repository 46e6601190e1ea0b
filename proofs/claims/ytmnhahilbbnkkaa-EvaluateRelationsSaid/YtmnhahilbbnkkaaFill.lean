/-
  warehousebase.Relations and Filled: three relations that the call has made.
-/
import Derived.Test.YtmnhahilbbnkkaaRws
namespace Go.Proofs.Ytmnhahilbbnkkaa
open Go.RowKit
set_option linter.unusedSimpArgs false
set_option linter.unusedVariables false

/-- Relation number j of a block of relations: its columns and rows are the call's own. -/
def RelAt (w w' : World) (g j : Nat) : Prop := ∃ nm A cols v zs, w'.cell? ⟨g, j * 4, none⟩ = some (.string nm) ∧ w'.cell? ⟨g, j * 4 + 1, none⟩ = some (.slice A 4 4) ∧ w'.cell? ⟨g, j * 4 + 2, none⟩ = some (.slice none 0 0) ∧
  w'.cell? ⟨g, j * 4 + 3, none⟩ = some v ∧ Sl w' (New w w' 34) A 4 4 (cols : List Col) ∧ (∀ x ∈ cols, x.good) ∧ FreshEnts w w' v zs
theorem FreshEnts.set {w w' : World} {v : Value} {zs : List Ent} {g o : Nat} {u : Value} (h : FreshEnts w w' v zs) (hg : TyAt w' 26 g) : FreshEnts w (w'.setCell ⟨g, o, none⟩ u) v zs := by
  obtain ⟨cs, h1, h2⟩ := h
  have hh : ∀ k, k ≠ g → (w'.setCell ⟨g, o, none⟩ u).heap[k]? = w'.heap[k]? := fun k hk => by simp [World.setCell, Array.getElem?_modify, show ¬ g = k from fun e => hk e.symm]
  refine ⟨cs, own_keep h1 (fun k hk => hh k (TyAt.ne (own_ty h1 hk) hg (by decide))), (h2.keep (fun k hk => hh k (TyAt.ne hk.2 hg (by decide)))).mono fun k hk => ⟨hk.1, hk.2.set _ _ _⟩⟩
theorem RelAt.below {w w' w1 : World} {g j : Nat} (h : RelAt w w' g j) (hg : g < w'.heap.size) (hb : Below w'.heap.size w' w1) : RelAt w w1 g j := by
  obtain ⟨nm, A, cols, v, zs, e0, e1, e2, e3, h1, h2, h3⟩ := h
  exact ⟨nm, A, cols, v, zs, bat hb hg e0, bat hb hg e1, bat hb hg e2, bat hb hg e3, (h1.keep ((Same.below hb).sub fun k hk => hk.2.lt)).mono fun k hk => ⟨hk.1, hk.2.below hb⟩, h2, h3.below hb⟩
theorem RelAt.set {w w' : World} {g j i : Nat} {u : Value} {ys : List Ent} (h : RelAt w w' g j) (hg : TyAt w' 26 g) (hu : FreshEnts w w' u ys) : RelAt w (w'.setCell ⟨g, i * 4 + 3, none⟩ u) g j := by
  obtain ⟨nm, A, cols, v, zs, e0, e1, e2, e3, h1, h2, h3⟩ := h
  have hh : ∀ k, k ≠ g → (w'.setCell ⟨g, i * 4 + 3, none⟩ u).heap[k]? = w'.heap[k]? := fun k hk => by simp [World.setCell, Array.getElem?_modify, show ¬ g = k from fun e => hk e.symm]
  have hc : Sl (w'.setCell ⟨g, i * 4 + 3, none⟩ u) (New w (w'.setCell ⟨g, i * 4 + 3, none⟩ u) 34) A 4 4 cols := (h1.keep (fun k hk => hh k (TyAt.ne hk.2 hg (by decide)))).mono fun k hk => ⟨hk.1, hk.2.set _ _ _⟩
  by_cases hij : i = j
  · subst hij
    exact ⟨nm, A, cols, u, ys, set_far e0 (.inr (by omega)), set_far e1 (.inr (by omega)), set_far e2 (.inr (by omega)), set_same e3, hc, h2, hu.set hg⟩
  · exact ⟨nm, A, cols, v, zs, set_far e0 (.inr (by omega)), set_far e1 (.inr (by omega)), set_far e2 (.inr (by omega)), set_far e3 (.inr (by omega)), hc, h2, h3.set hg⟩

def colsO : List Col := [⟨⟨#[105, 100]⟩, 2, false⟩, ⟨⟨#[99]⟩, 3, false⟩, ⟨⟨#[97, 116]⟩, 4, false⟩, ⟨⟨#[118]⟩, 2, true⟩]
def colsC : List Col := [⟨⟨#[99]⟩, 3, false⟩, ⟨⟨#[97, 116]⟩, 4, false⟩, ⟨⟨#[114]⟩, 3, true⟩, ⟨⟨#[107]⟩, 2, false⟩]
theorem good_mk {s : ByteArray} {k : Int} {b : Bool} (h1 : s.size ≤ 9223372036854775807) (h2 : 1 ≤ k) (h3 : k ≤ 4) : Col.good ⟨s, k, b⟩ := ⟨⟨h1, by show I64 k; unfold I64; omega⟩, h2, h3⟩
theorem good_O : ∀ x ∈ colsO, x.good := by
  intro x hx
  simp [colsO] at hx
  rcases hx with rfl | rfl | rfl | rfl <;> exact good_mk (by decide) (by decide) (by decide)
theorem good_C : ∀ x ∈ colsC, x.good := by
  intro x hx
  simp [colsC] at hx
  rcases hx with rfl | rfl | rfl | rfl <;> exact good_mk (by decide) (by decide) (by decide)
theorem four_cols {w w' : World} {b : Nat} {a0 a1 a2 a3 : Col} (hg : ∀ x ∈ [a0, a1, a2, a3], x.good) (hb : w.heap.size ≤ b)
    (hh : w'.heap[b]? = some (.cells #[.string a0.name, .int .i64 a0.kind, .bool a0.nullable, .string a1.name, .int .i64 a1.kind, .bool a1.nullable, .string a2.name, .int .i64 a2.kind, .bool a2.nullable, .string a3.name, .int .i64 a3.kind, .bool a3.nullable] 34 (0, 0))) :
    Sl w' (New w w' 34) (some ⟨b, 0, none⟩) 4 4 [a0, a1, a2, a3] := by
  have hc : Cells w' (fun _ => False) [.string a0.name, .int .i64 a0.kind, .bool a0.nullable, .string a1.name, .int .i64 a1.kind, .bool a1.nullable, .string a2.name, .int .i64 a2.kind, .bool a2.nullable, .string a3.name, .int .i64 a3.kind, .bool a3.nullable] [a0, a1, a2, a3] :=
    ⟨_, _, rfl, ⟨rfl, (hg a0 (by simp)).1⟩, _, _, rfl, ⟨rfl, (hg a1 (by simp)).1⟩, _, _, rfl, ⟨rfl, (hg a2 (by simp)).1⟩, _, _, rfl, ⟨rfl, (hg a3 (by simp)).1⟩, rfl⟩
  have hown : w'.ownsRow w.heap.size 34 3 (.slice (some ⟨b, 0, none⟩) 4 4) 4 _ := ⟨hc.len, .inr ⟨b, 4, _, rfl, hb, hh, Nat.le_refl _, by decide, rfl, rfl⟩⟩
  obtain ⟨A, c, e, hs, _⟩ := sl_of_own (T := New w w' 34) hown hc (fun _ h => h.elim) rfl (fun g hg ht => ⟨hg, ht⟩)
  injection e with e1 e2 e3
  subst e1 e3
  exact hs

def relW (w : World) : World := ((w.alloc (.cells #[Value.string ⟨#[105, 100]⟩, Value.int .i64 2, Value.bool false, Value.string ⟨#[99]⟩, Value.int .i64 3, Value.bool false, Value.string ⟨#[97, 116]⟩, Value.int .i64 4, Value.bool false, Value.string ⟨#[118]⟩, Value.int .i64 2, Value.bool true] 34)).alloc (.cells #[Value.string ⟨#[99]⟩, Value.int .i64 3, Value.bool false, Value.string ⟨#[97, 116]⟩, Value.int .i64 4, Value.bool false, Value.string ⟨#[114]⟩, Value.int .i64 3, Value.bool true, Value.string ⟨#[107]⟩, Value.int .i64 2, Value.bool false] 34)).alloc (.cells #[Value.string ⟨#[111, 114, 100, 101, 114, 115]⟩, Value.slice (some ⟨w.heap.size, 0, none⟩) 4 4, Value.slice none 0 0, Value.slice none 0 0, Value.string ⟨#[99, 117, 115, 116, 111, 109, 101, 114, 115]⟩, Value.slice (some ⟨w.heap.size + 1, 0, none⟩) 4 4, Value.slice none 0 0, Value.slice none 0 0, Value.string ⟨#[114, 101, 116, 117, 114, 110, 115]⟩, Value.slice (some ⟨w.heap.size, 0, none⟩) 4 4, Value.slice none 0 0, Value.slice none 0 0] 26)
theorem relW_post (w : World) : RowBlk (relW w) (w.heap.size + 2) 26 12 ∧ RelAt w (relW w) (w.heap.size + 2) 0 ∧ RelAt w (relW w) (w.heap.size + 2) 1 ∧ RelAt w (relW w) (w.heap.size + 2) 2 := by
  obtain ⟨w1, e1⟩ : ∃ w1, w1 = w.alloc (.cells #[Value.string ⟨#[105, 100]⟩, Value.int .i64 2, Value.bool false, Value.string ⟨#[99]⟩, Value.int .i64 3, Value.bool false, Value.string ⟨#[97, 116]⟩, Value.int .i64 4, Value.bool false, Value.string ⟨#[118]⟩, Value.int .i64 2, Value.bool true] 34) := ⟨_, rfl⟩
  obtain ⟨w2, e2⟩ : ∃ w2, w2 = w1.alloc (.cells #[Value.string ⟨#[99]⟩, Value.int .i64 3, Value.bool false, Value.string ⟨#[97, 116]⟩, Value.int .i64 4, Value.bool false, Value.string ⟨#[114]⟩, Value.int .i64 3, Value.bool true, Value.string ⟨#[107]⟩, Value.int .i64 2, Value.bool false] 34) := ⟨_, rfl⟩
  have z1 : w1.heap.size = w.heap.size + 1 := by rw [e1]; simp
  have z2 : w2.heap.size = w.heap.size + 2 := by rw [e2]; simp [z1]
  have e3 : relW w = w2.alloc (.cells #[Value.string ⟨#[111, 114, 100, 101, 114, 115]⟩, Value.slice (some ⟨w.heap.size, 0, none⟩) 4 4, Value.slice none 0 0, Value.slice none 0 0, Value.string ⟨#[99, 117, 115, 116, 111, 109, 101, 114, 115]⟩, Value.slice (some ⟨w.heap.size + 1, 0, none⟩) 4 4, Value.slice none 0 0, Value.slice none 0 0, Value.string ⟨#[114, 101, 116, 117, 114, 110, 115]⟩, Value.slice (some ⟨w.heap.size, 0, none⟩) 4 4, Value.slice none 0 0, Value.slice none 0 0] 26) := by rw [e2, e1]; rfl
  have h0 : (relW w).heap[w.heap.size]? = some (.cells #[Value.string ⟨#[105, 100]⟩, Value.int .i64 2, Value.bool false, Value.string ⟨#[99]⟩, Value.int .i64 3, Value.bool false, Value.string ⟨#[97, 116]⟩, Value.int .i64 4, Value.bool false, Value.string ⟨#[118]⟩, Value.int .i64 2, Value.bool true] 34 (0, 0)) := by rw [e3, Below.heap_alloc _ _ _ (by omega), e2, Below.heap_alloc _ _ _ (by omega), e1]; exact heap_alloc_new _ _
  have h1 : (relW w).heap[w.heap.size + 1]? = some (.cells #[Value.string ⟨#[99]⟩, Value.int .i64 3, Value.bool false, Value.string ⟨#[97, 116]⟩, Value.int .i64 4, Value.bool false, Value.string ⟨#[114]⟩, Value.int .i64 3, Value.bool true, Value.string ⟨#[107]⟩, Value.int .i64 2, Value.bool false] 34 (0, 0)) := by rw [e3, Below.heap_alloc _ _ _ (by omega), e2, ← z1]; exact heap_alloc_new _ _
  have h2 : (relW w).heap[w.heap.size + 2]? = some (.cells #[Value.string ⟨#[111, 114, 100, 101, 114, 115]⟩, Value.slice (some ⟨w.heap.size, 0, none⟩) 4 4, Value.slice none 0 0, Value.slice none 0 0, Value.string ⟨#[99, 117, 115, 116, 111, 109, 101, 114, 115]⟩, Value.slice (some ⟨w.heap.size + 1, 0, none⟩) 4 4, Value.slice none 0 0, Value.slice none 0 0, Value.string ⟨#[114, 101, 116, 117, 114, 110, 115]⟩, Value.slice (some ⟨w.heap.size, 0, none⟩) 4 4, Value.slice none 0 0, Value.slice none 0 0] 26 (0, 0)) := by rw [e3, ← z2]; exact heap_alloc_new _ _
  have hf : FreshEnts w (relW w) (.slice none 0 0) [] := ⟨[], World.ownsRow_nil _ _ _ _, rfl⟩
  have s0 := four_cols (w := w) good_O (Nat.le_refl _) h0
  have s1 := four_cols (w := w) good_C (Nat.le_add_right _ 1) h1
  exact ⟨⟨_, h2, rfl⟩,
    ⟨_, _, _, _, [], (cell_of_row _ _ _ _ _ (0, 0) h2).trans rfl, (cell_of_row _ _ _ _ _ (0, 0) h2).trans rfl, (cell_of_row _ _ _ _ _ (0, 0) h2).trans rfl, (cell_of_row _ _ _ _ _ (0, 0) h2).trans rfl, s0, good_O, hf⟩,
    ⟨_, _, _, _, [], (cell_of_row _ _ _ _ _ (0, 0) h2).trans rfl, (cell_of_row _ _ _ _ _ (0, 0) h2).trans rfl, (cell_of_row _ _ _ _ _ (0, 0) h2).trans rfl, (cell_of_row _ _ _ _ _ (0, 0) h2).trans rfl, s1, good_C, hf⟩,
    ⟨_, _, _, _, [], (cell_of_row _ _ _ _ _ (0, 0) h2).trans rfl, (cell_of_row _ _ _ _ _ (0, 0) h2).trans rfl, (cell_of_row _ _ _ _ _ (0, 0) h2).trans rfl, (cell_of_row _ _ _ _ _ (0, 0) h2).trans rfl, s0, good_O, hf⟩⟩

set_option maxHeartbeats 2000000 in
set_option maxRecDepth 100000 in
theorem relations_any (w : World) :
    Calls Try.prog 9 #[] w
      fun e w' => (e = .returned (.slice (some ⟨w.heap.size + 2, 0, none⟩) 3 3) ∧ RowBlk w' (w.heap.size + 2) 26 12 ∧ RelAt w w' (w.heap.size + 2) 0 ∧ RelAt w w' (w.heap.size + 2) 1 ∧ RelAt w w' (w.heap.size + 2) 2) ∧ Below w.heap.size w w' := by
  go_enter Try.func9, Try.ntmps9
  go_wp2
  go_ret
  exact ⟨⟨rfl, relW_post w⟩, below_trans below_alloc2 below_alloc⟩

set_option maxHeartbeats 4000000 in
set_option maxRecDepth 100000 in
theorem filled_any (w : World) (A2 : Option Addr) (n2 c2 : Nat) (l : List Int) (hl : In w A2 n2 c2 l) (N : Int) (hN0 : 0 ≤ N) (hN1 : N ≤ 999) :
    Calls Try.prog 6 #[.slice A2 n2 c2, .int .i64 N] w
      fun e w' => (∃ g, e = .returned (.slice (some ⟨g, 0, none⟩) 3 3) ∧ w.heap.size ≤ g ∧ RowBlk w' g 26 12 ∧ ∀ j, j < 3 → RelAt w w' g j) ∧ Below w.heap.size w w' := by
  have hrels := relations_any w
  obtain ⟨g, hg⟩ : ∃ g, w.heap.size + 2 = g := ⟨_, rfl⟩
  rw [hg] at hrels
  have hg0 : w.heap.size ≤ g := by omega
  clear hg
  go_enter Try.func6, Try.ntmps6
  go_wp2_with fail
  refine hrels.mono ?_
  rintro e w1 ⟨⟨rfl, hR1, r0, r1, r2⟩, hb1⟩
  have HR1 : Hid (RowBlk w1 g 26 12 ∧ ∀ j, j < 3 → RelAt w w1 g j) := hide ⟨hR1, fun j hj => by
    obtain rfl | rfl | rfl : j = 0 ∨ j = 1 ∨ j = 2 := by omega
    · exact r0
    · exact r1
    · exact r2⟩
  clear hR1 r0 r1 r2
  go_wp2
  go_loopw [6] (fun i wr => ∃ k : Nat, k ≤ 3 ∧ i = .int .i64 k ∧ RowBlk wr g 26 12 ∧ (∀ j, j < 3 → RelAt w wr g j) ∧ Below w.heap.size w wr) (fun i _ => 3 - (intOf i).toNat)
  case atStart => exact ⟨0, Nat.zero_le _, rfl, HR1.out.1, HR1.out.2, hb1⟩
  case round =>
    obtain ⟨k, hk, rfl, hR, hj, hb⟩ := hrel
    have HR := hide hR
    have HJ := hide hj
    have hgw := hR.lt
    clear hR hj
    by_cases hlt : k < 3
    · obtain ⟨nm, A, cols, v0, zs0, e0, e1, e2, e3, hs, hgood, hf⟩ := HJ.out k hlt
      have hsz := hb.size
      have HS := hide (In.of_sl hs fun q hq => hq.2.lt)
      have HL := hide (hl.below hb)
      clear hs hf
      have k0 : (0 : Int) ≤ (k : Int) := by omega
      have k1 : (k : Int) < 3 := by omega
      have hm : IntKind.i64.wrap (3 * (k : Int)) = 3 * (k : Int) := IntWalk.i64_in _ (by omega)
      obtain ⟨M, hM⟩ : ∃ M, N + 1 = M := ⟨_, rfl⟩
      have hN : IntKind.i64.wrap (N + 1) = M := by rw [← hM]; exact IntWalk.i64_in _ (by omega)
      have hM0 : (0 : Int) < M := by omega
      have hM1 : M ≤ 1000 := by omega
      have hMz : ¬ M = 0 := by omega
      clear hM
      go_wp2_with fail
      go_region_held3 (fun w' => w'.cell? ⟨g, k * 4 + 1, none⟩ = some (.slice A 4 4)) (first | exact e1 | exact e1' | exact e1q | exact set_far e1q (.inr (by omega))) (first | (go_at_call 11; refine (tail_any _ _ _ _ l (by exact HL.out) (3 * (k : Int)) (by omega) (by omega)).mono ?_; rintro e w2 ⟨⟨B, nt, d, l', rfl, hlt'⟩, rfl⟩; have HLT : Hid (In wr B nt d l') := hide (Sl.keep (show Same (fun k => k < wr.heap.size) _ wr from fun _ _ => rfl) hlt')) | (go_at_call 12; refine (at_any _ _ _ _ l (by exact HL.out) _).mono ?_; rintro e w3 ⟨⟨v, rfl, hv0, hv1⟩, hb3⟩; have hb3' := below_undrew hb3; have e1' := bat hb3' hgw e1; obtain ⟨m, hm1, hm2⟩ : ∃ m : Nat, v % M = (m : Int) ∧ m ≤ 1000 := ⟨(v % M).toNat, by have := Int.emod_nonneg v (show M ≠ 0 by omega); omega, by have := Int.emod_lt_of_pos v (show 0 < M by omega); omega⟩; have hm3 : Int.tmod v M = (m : Int) := (Int.tmod_eq_emod_of_nonneg hv0).trans hm1; have HLT3 := hide (HLT.out.below hb3'); have HS3 := hide (HS.out.below hb3')) | (go_at_call 10; refine (rows_any _ A B 4 nt 4 d cols l' (by exact HS3.out) hgood (by exact HLT3.out) (by omega) m (by omega)).mono ?_; rintro e w4 ⟨⟨u, ys, rfl, hfu⟩, hb4⟩; obtain ⟨Au, cu, rfl, _⟩ := hfu.sl; have hb34 := below_trans hb3' hb4; have e1q := bat hb34 hgw e1; have hR4 := HR.out.below hb34; obtain ⟨u3, c3⟩ := hR4.cell (show k * 4 + 3 < 12 by omega); have z3 := hR4.frozen (k * 4 + 3); have HU := hide (hfu.base (Nat.le_trans hsz hb3'.size)); have HR4 := hide hR4; clear hfu hR4))
      have HJ4 : Hid (∀ j, j < 3 → RelAt w (w4.setCell ⟨g, k * 4 + 3, none⟩ (.slice Au ys.length cu)) g j) := hide fun j hj => ((HJ.out j hj).below hgw hb34).set HR4.out.ty HU.out
      have HR5 := hide (HR4.out.set g (k * 4 + 3) (.slice Au ys.length cu))
      have hbw : Below w.heap.size w (w4.setCell ⟨g, k * 4 + 3, none⟩ (.slice Au ys.length cu)) := (hb.trans (hb34.mono hsz)).setCell hg0 _
      clear e0 e1 e2 e3 e1' e1q c3 z3 hb34 hb4 hb3
      go_wp2
      go_roundw
      case rel => exact ⟨k + 1, by omega, by go_num, HR5.out, HJ4.out, hbw⟩
      case measure => simp [intOf]; omega
    · go_wp2
      go_ret
      exact ⟨⟨g, rfl, hg0, HR.out, HJ.out⟩, hb⟩
end Go.Proofs.Ytmnhahilbbnkkaa
