/-
  warehousebase: Cell and Row: they fit their columns.
-/
import Derived.Test.YtmnhahilbbnkkaaBase
namespace Go.Proofs.Ytmnhahilbbnkkaa
open Go.RowKit
set_option linter.unusedSimpArgs false
set_option linter.unusedVariables false

def Fits (c : Col) (v : Val) : Prop := v.ok ∧ cellErr c v = 0
def Col.good (c : Col) : Prop := c.ok ∧ 1 ≤ c.kind ∧ c.kind ≤ 4
theorem fits_null {c : Col} (h : c.nullable = true) : Fits c ⟨0, 0, ⟨#[]⟩⟩ := by
  obtain ⟨h1, h2, _, h4⟩ := made_null (k := 0) (by omega)
  exact ⟨h2, by simp [cellErr, h1, h]⟩
theorem fits_made {c : Col} {v : Val} (hc : c.good) (h : Made c.kind v) : Fits c v := by
  obtain ⟨h1, h2, h3, h4⟩ := h
  have h5 := h3 hc.2.1 hc.2.2
  have : v.kind ≠ 0 := by have := hc.2.1; omega
  exact ⟨h2, by simp [cellErr, h1, h5]; have := hc.2.1; omega⟩

set_option maxHeartbeats 1000000 in
set_option maxRecDepth 100000 in
theorem cell_any (w : World) (c : Col) (hc : c.good) (i : Int) (hi0 : 0 ≤ i) (hi1 : i ≤ 1000000) :
    Calls Try.prog 36 #[.agg c.cells.toArray, .int .i64 i] w fun e w' => (∃ v, e = .returned (.agg v.cells.toArray) ∧ Fits c v) ∧ Below w.heap.size w w' := by
  have HF := fun v => @fits_made c v hc
  obtain ⟨nm, kd, nl⟩ := c
  simp only [Col.cells]
  by_cases hz : nl = true ∧ i % 4 = 0
  · obtain ⟨rfl, hz⟩ := hz
    have hz' : (i % 4 == 0) = true := by simp [hz]
    clear HF
    have HN : Fits ⟨nm, kd, true⟩ ⟨0, 0, ⟨#[]⟩⟩ := fits_null rfl
    go_enter Try.func36, Try.ntmps36
    go_wp2
    refine bodyPost_ret (v := .agg (Val.cells ⟨0, 0, ⟨#[]⟩⟩).toArray) (by simp [results, Try.results36, go_sem, Val.cells]) rfl ⟨⟨_, rfl, HN⟩, below_alloc2⟩
  · have hq : nl = false ∨ (nl = true ∧ (i % 4 == 0) = false) := by
      cases nl
      · exact .inl rfl
      · exact .inr ⟨rfl, by have h' := fun h => hz ⟨rfl, h⟩; simpa using h'⟩
    clear hz
    have hq4 : IntKind.i64.wrap (i / 4) = i / 4 := by rw [IntKind.wrap_i64]; omega
    rcases hq with rfl | ⟨rfl, hz⟩
    all_goals
      go_enter Try.func36, Try.ntmps36
      go_wp2_with fail
      refine (value_any _ _ _).mono ?_
      rintro e w1 ⟨⟨v, rfl, hv⟩, hb1⟩
      have hbb := below_trans below_alloc2 hb1
      have g0 : w1.cell? ⟨w.heap.size + 1, 0, none⟩ = some (.int .i64 0) := bat hb1 (by simp) (by simp [go_sem])
      have g1 : w1.cell? ⟨w.heap.size + 1, 1, none⟩ = some (.int .i64 0) := bat hb1 (by simp) (by simp [go_sem])
      have g2 : w1.cell? ⟨w.heap.size + 1, 2, none⟩ = some (.string ⟨#[]⟩) := bat hb1 (by simp) (by simp [go_sem])
      have f0 : w1.frozen? ⟨w.heap.size + 1, 0, none⟩ = false := ((bcell hb1).2 _ _ (by simp)).trans (by simp [go_sem])
      have f1 : w1.frozen? ⟨w.heap.size + 1, 1, none⟩ = false := ((bcell hb1).2 _ _ (by simp)).trans (by simp [go_sem])
      have f2 : w1.frozen? ⟨w.heap.size + 1, 2, none⟩ = false := ((bcell hb1).2 _ _ (by simp)).trans (by simp [go_sem])
      have hs1 : w.heap.size + 1 < w1.heap.size := by have := hb1.size; simp at this; omega
      clear hb1
      obtain ⟨vk, vn, vs⟩ := v
      simp only [Val.cells]
      go_wp2
      refine bodyPost_ret (v := .agg (Val.cells ⟨vk, vn, vs⟩).toArray) (results_cells (cs := Val.cells ⟨vk, vn, vs⟩) rfl _ _ (w.heap.size + 1) _ rfl (set_three g0 g1 g2) Try.underlying42 rfl (by kernel_rfl)) rfl ⟨⟨_, rfl, HF _ hv⟩, ((hbb.setCell (by simp) _).setCell (by simp) _).setCell (by simp) _⟩
end Go.Proofs.Ytmnhahilbbnkkaa
