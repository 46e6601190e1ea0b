/-
  warehousebase.Row: the row fits the columns and lies in a new block.
-/
import Derived.Test.YtmnhahilbbnkkaaCell
import Derived.Test.YtmnhahilbbnkkaaRow
namespace Go.Proofs.Ytmnhahilbbnkkaa
open Go.RowKit
set_option linter.unusedSimpArgs false
set_option linter.unusedVariables false

theorem val_info : (Try.prog.info? 42).map (fun i => (i.zero, i.size, i.bytes)) = some (some (.agg #[.int .i64 0, .int .i64 0, .string ⟨#[]⟩]), 3, 32) := by kernel_rfl

/-- The first values of a row that is being built. -/
def Part (w : World) (g : Nat) (cols : List Col) (vs : List Val) : Prop :=
  (∀ i, (h : i < vs.length) → At w (fun _ => False) g (i * 3) vs[i]) ∧ ∀ i, (h : i < vs.length) → (h' : i < cols.length) → Fits cols[i] vs[i]
theorem Part.below {w w' : World} {g : Nat} {cols : List Col} {vs : List Val} (h : Part w g cols vs) (hg : g < w.heap.size) (hb : Below w.heap.size w w') : Part w' g cols vs :=
  ⟨fun i hi => by
    obtain ⟨cs, hr, hc⟩ := h.1 i hi
    exact ⟨cs, hr, fun j hj => bat hb hg (hc j hj)⟩, h.2⟩
theorem Part.add {w : World} {g : Nat} {cols : List Col} {vs : List Val} {v : Val} {u0 u1 u2 : Value} (h : Part w g cols vs) (hv : v.ok) (hk : vs.length < cols.length) (hf : Fits cols[vs.length] v)
    (h0 : w.cell? ⟨g, vs.length * 3, none⟩ = some u0) (h1 : w.cell? ⟨g, vs.length * 3 + 1, none⟩ = some u1) (h2 : w.cell? ⟨g, vs.length * 3 + 2, none⟩ = some u2) :
    Part (((w.setCell ⟨g, vs.length * 3, none⟩ (.int .i64 v.kind)).setCell ⟨g, vs.length * 3 + 1, none⟩ (.int .i64 v.num)).setCell ⟨g, vs.length * 3 + 2, none⟩ (.string v.str)) g cols (vs ++ [v]) := by
  refine ⟨fun i hi => ?_, fun i hi hi' => ?_⟩
  · rw [List.length_append] at hi
    by_cases hl : i < vs.length
    · obtain ⟨cs, ⟨rfl, hr⟩, hc⟩ := h.1 i hl
      rw [List.getElem_append_left hl]
      refine ⟨_, ⟨rfl, hr⟩, fun j hj => ?_⟩
      have hj3 : j < 3 := hj
      exact set_far (set_far (set_far (hc j hj) (.inr (by omega))) (.inr (by omega))) (.inr (by omega))
    · obtain rfl : i = vs.length := by simp at hi; omega
      rw [List.getElem_append_right (Nat.le_refl _)]
      simp only [Nat.sub_self, List.getElem_cons_zero]
      refine ⟨v.cells, ⟨rfl, hv⟩, fun j hj => ?_⟩
      have hj3 : j < 3 := hj
      obtain rfl | rfl | rfl : j = 0 ∨ j = 1 ∨ j = 2 := by omega
      · exact set_far (set_far (set_same h0) (.inr (by omega))) (.inr (by omega))
      · exact set_far (set_same (set_far h1 (.inr (by omega)))) (.inr (by omega))
      · exact set_same (set_far (set_far h2 (.inr (by omega))) (.inr (by omega)))
  · rw [List.length_append] at hi
    by_cases hl : i < vs.length
    · rw [List.getElem_append_left hl]; exact h.2 i hl hi'
    · obtain rfl : i = vs.length := by simp at hi; omega
      rw [List.getElem_append_right (Nat.le_refl _)]
      simpa using hf
theorem firstErr_none {α : Type} {f : Nat → α → Int} {l : List α} : ∀ k, (∀ i, (h : i < l.length) → f (k + i) l[i] = 0) → firstErr f k l = 0 := by
  induction l with
  | nil => intro k _; rfl
  | cons x l ih =>
    intro k h
    have h0 := h 0 (by simp)
    rw [firstErr_zero (by simpa using h0)]
    exact ih (k + 1) fun i hi => by
      have := h (i + 1) (by simpa using hi)
      rw [show k + 1 + i = k + (i + 1) from by omega]
      simpa using this
theorem rowErr_fits {cols : List Col} {vs : List Val} (hl : vs.length = cols.length) (h : ∀ i, (h : i < vs.length) → (h' : i < cols.length) → Fits cols[i] vs[i]) : rowErr cols vs = 0 := by
  rw [rowErr, if_neg (by simp [hl])]
  refine firstErr_none 0 fun i hi => ?_
  have := (h i hi (by omega)).2
  simp only [Nat.zero_add]
  rw [List.getD, List.getElem?_eq_getElem (by omega)]
  exact this

set_option maxHeartbeats 2000000 in
set_option maxRecDepth 100000 in
theorem row_any (w : World) (A A2 : Option Addr) (n n2 c c2 : Nat) (cols : List Col) (l : List Int) (hx : In w A n c cols) (hgood : ∀ x ∈ cols, x.good) (hl : In w A2 n2 c2 l) (at_ : Int) (ha0 : 0 ≤ at_) (ha1 : at_ ≤ 100000) (hn : n ≤ 4096) :
    Calls Try.prog 21 #[.slice A n c, .slice A2 n2 c2, .int .i64 at_] w
      fun e w' => (∃ B c' vs, e = .returned (.slice B n c') ∧ Sl w' (New w w' 42) B n c' vs ∧ rowErr cols vs = 0) ∧ Below w.heap.size w w' := by
  have hlen := hide hx.len
  obtain ⟨i0, hi, hz0, hz1, hz2⟩ := info_parts val_info
  have hmk := fun W => run_make_rowN (P := Try.prog) 35 42 i0 _ Try.underlying35 hi hz0 .i64 .i64 n n (Nat.le_refl _) (by rw [hz2]; omega) (by omega) W
  rw [hz1] at hmk
  have hrb : ∀ cur : Array Value, cur.size = n * 3 → RowBlk (w.alloc (.cells cur 42)) w.heap.size 42 (n * 3) := fun cur h => RowBlk.made w cur _ _ h
  go_enter Try.func21, Try.ntmps21
  go_wp2
  go_loopw [8] (fun i wr => ∃ vs : List Val, vs.length ≤ n ∧ i = .int .i64 vs.length ∧ RowBlk wr w.heap.size 42 (n * 3) ∧ Part wr w.heap.size cols vs ∧ Below w.heap.size w wr) (fun i _ => n - (intOf i).toNat)
  case atStart => exact ⟨[], Nat.zero_le _, rfl, hrb _ (size_madeCells _ _), ⟨fun i h => absurd h (by simp), fun i h => absurd h (by simp)⟩, below_alloc⟩
  case round =>
    obtain ⟨vs, hk, rfl, hR, hP, hb⟩ := hrel
    obtain ⟨k, hkk⟩ : ∃ k, vs.length = k := ⟨_, rfl⟩
    rw [hkk] at hk ⊢
    have HK := hide hkk
    clear hkk hrb hmk
    by_cases hlt : k < n
    · obtain ⟨b, off, x, rfl, hB, HX, e0, e1, e2, e3⟩ := (hx.below hb).col hlt
      have hbw : b < w.heap.size := by
        obtain ⟨b', o', x', e, hb', _⟩ := hx.get hlt
        injection e with e
        injection e with e
        omega
      have hgx : x.good := hgood x (by
        have := (drop_get HX.out).1
        exact List.mem_of_getElem? this)
      have hxk := hide (drop_get HX.out).1
      have HP := hide hP
      have HR := hide hR
      have hlr := hl.below hb
      have hs : IntKind.i64.wrap (at_ + (k : Int)) = at_ + (k : Int) := IntWalk.i64_in _ (by omega)
      have k0 : (0 : Int) ≤ (k : Int) := by omega
      have k1 : (k : Int) < (n : Int) := by omega
      have hgw := hR.lt
      have hne : b ≠ w.heap.size := by omega
      clear hP hR
      go_wp2_with fail
      go_region_held3 (fun w' => w'.cell? ⟨b, off + k * 3, none⟩ = some (.string x.name) ∧ w'.cell? ⟨b, off + k * 3 + 1, none⟩ = some (.int .i64 x.kind) ∧ w'.cell? ⟨b, off + k * 3 + 2, none⟩ = some (.bool x.nullable)) (first | exact ⟨e0, e1, e2⟩ | (have hq := below_undrew hb1; exact ⟨bat hq hB e0, bat hq hB e1, bat hq hB e2⟩) | exact ⟨d0, d1, d2⟩ | exact ⟨set_far (set_far (set_far d0 (.inl hne)) (.inl hne)) (.inl hne), set_far (set_far (set_far d1 (.inl hne)) (.inl hne)) (.inl hne), set_far (set_far (set_far d2 (.inl hne)) (.inl hne)) (.inl hne)⟩) (first | (go_at_call 12; refine (at_any _ _ _ _ l (by exact hlr) _).mono ?_; rintro e w1 ⟨⟨v, rfl, hv0, hv1⟩, hb1⟩; have hb1' := below_undrew hb1; have d0' := bat hb1' hB e0; have d1' := bat hb1' hB e1; have d2' := bat hb1' hB e2) | (go_at_call 36; refine (cell_any _ x hgx _ hv0 (by omega)).mono ?_; rintro e w2 ⟨⟨y, rfl, hy⟩, hb2⟩; have hB1 := Nat.lt_of_lt_of_le hB hb1'.size; have d0 := bat hb2 hB1 d0'; have d1 := bat hb2 hB1 d1'; have d2 := bat hb2 hB1 d2'; have hb12 := below_trans hb1' hb2; have hR2 := HR.out.below hb12; obtain ⟨u0, c0⟩ := hR2.cell (show k * 3 < n * 3 by omega); obtain ⟨u1, c1⟩ := hR2.cell (show k * 3 + 1 < n * 3 by omega); obtain ⟨u2, c2⟩ := hR2.cell (show k * 3 + 2 < n * 3 by omega); have z0 := hR2.frozen (k * 3); have z1 := hR2.frozen (k * 3 + 1); have z2 := hR2.frozen (k * 3 + 2); have HR2 := hide hR2; clear hR2; obtain ⟨yk, yn, ys⟩ := y; simp only [Val.cells]))
      have hbb : Below w.heap.size w w2 := hb.trans (hb12.mono hb.size)
      have hP2 := HP.out.below hgw hb12
      have hkl : vs.length = k := HK.out
      have hyv : Val.ok ⟨yk, yn, ys⟩ := hy.1
      have hfit : (h : vs.length < cols.length) → Fits (cols[vs.length]'h) ⟨yk, yn, ys⟩ := fun h => by
        have h1 := hxk.out
        rw [List.getElem?_eq_getElem (by omega)] at h1
        injection h1 with h1
        have : cols[vs.length]'h = x := by rw [← h1]; congr 1
        rw [this]; exact hy
      have hcl : vs.length < cols.length := by rw [hkl, hlen.out]; exact hlt
      have hadd := Part.add hP2 hyv hcl (hfit hcl) (by rw [hkl]; exact c0) (by rw [hkl]; exact c1) (by rw [hkl]; exact c2)
      rw [hkl] at hadd
      have HADD := hide hadd
      have HRR := hide (((HR2.out.set w.heap.size (k * 3) (.int .i64 yk)).set w.heap.size (k * 3 + 1) (.int .i64 yn)).set w.heap.size (k * 3 + 2) (.string ys))
      clear hadd hkl hfit hcl hP2 c0 c1 c2 d0 d1 d2
      go_wp2
      go_roundw
      case rel =>
        have hkl : vs.length = k := HK.out
        refine ⟨vs ++ [⟨yk, yn, ys⟩], by simp; omega, by simp [hkl], HRR.out, HADD.out, ((hbb.setCell (Nat.le_refl _) _).setCell (Nat.le_refl _) _).setCell (Nat.le_refl _) _⟩
      case measure => simp [intOf]; omega
    · have hkn : k = n := by omega
      subst hkn
      have hvl : vs.length = cols.length := by rw [HK.out, hlen.out]
      have hE := hide (rowErr_fits hvl hP.2)
      have hS : Sl wr (New w wr 42) (some ⟨w.heap.size, 0, none⟩) k k vs := by
        refine ⟨HK.out, Nat.le_refl _, by omega, (fun h => by cases h), fun _ => ⟨w.heap.size, 0, rfl, ⟨Nat.le_refl _, hR.ty⟩, fun i hi => ?_⟩⟩
        rw [Nat.zero_add]
        exact (hP.1 i hi).mono fun _ h => h.elim
      have HS := hide hS
      clear hS hP hR hvl
      go_wp2
      go_ret
      exact ⟨⟨_, _, vs, rfl, HS.out, hE.out⟩, hb⟩
end Go.Proofs.Ytmnhahilbbnkkaa
