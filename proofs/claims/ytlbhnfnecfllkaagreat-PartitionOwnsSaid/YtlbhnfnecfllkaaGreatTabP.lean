/-
  Plain law: a table of the world fits its columns and its scheme.
-/
import Derived.Test.YtlbhnfnecfllkaaGreatTabW
import Derived.Test.YtlbhnfnecfllkaaGreatRepl
namespace Go.Proofs.YtlbhnfnecfllkaaGreat
set_option linter.unusedSimpArgs false
set_option linter.unusedVariables false

theorem tent_row {cols : List Col} {x : Ent} (h : TEnt cols x) : rowErr cols x.row = 0 :=
  rowErr_fits h.1 fun i h1 h2 => by
    have := h.2.1 i h2
    rwa [List.getD_eq_getElem?_getD, List.getD_eq_getElem?_getD, List.getElem?_eq_getElem h1, List.getElem?_eq_getElem h2] at this
theorem cellErr_valid {c : Col} {v : Val} (h : cellErr c v = 0) : valid v = true := by
  rw [cellErr] at h
  split at h
  · omega
  · rename_i q; simpa using q
theorem tent_ent {cols : List Col} (hl : cols.length ≤ 12) {x : Ent} (h : TEnt cols x) : entErr x = 0 := by
  refine entErr_row.2 ⟨by have := h.2.2; omega, by rw [h.1]; exact hl, fun v hv => ?_⟩
  obtain ⟨i, hi, rfl⟩ := List.mem_iff_getElem.1 hv
  have := h.2.1 i (by rw [← h.1]; exact hi)
  rw [List.getD_eq_getElem?_getD, List.getD_eq_getElem?_getD, List.getElem?_eq_getElem hi] at this
  exact cellErr_valid this.2
theorem len_bagS {xs : List Ent} : (bagS xs).2.length ≤ xs.length := by
  rw [bagS]
  split
  · simp
  · exact len_cnt (keepF_asc (sortL_asc _)) (keepF_noz _) fun r hr => by
      rw [keepF_cnt, sortL_cnt] at hr
      by_cases g : ∃ x ∈ xs, x.row = r
      · exact g
      · exact absurd (cnt_none fun x hx e => g ⟨x, hx, cr_zero.1 e⟩) hr
theorem TabOf.bag {cols : List Col} (hl : cols.length ≤ 12) {zs : List Ent} (h : TabOf cols zs) : bagErr zs = 0 ∧ (∀ x ∈ zs, rowErr cols x.row = 0) ∧ zs.length ≤ 1000 := by
  obtain ⟨xs, q, h1, h2, h3⟩ := h
  have hn := normed_S h3
  rw [normS_ok fun x hx => tent_ent hl (h1 x hx)] at hn
  have a := bagS_ok (xs := xs) fun x hx => tent_ent hl (h1 x hx)
  have b := bagS_rows (P := fun r => rowErr cols r = 0) (xs := xs) fun x hx => tent_row (h1 x hx)
  have c := len_bagS (xs := xs)
  rw [hn] at a b c
  exact ⟨a, b, Nat.le_trans c h2⟩
theorem wCols_ok : ∀ cols ∈ wCols, colsErr cols = 0 := by
  intro cols h
  simp only [wCols, List.mem_cons, List.not_mem_nil, or_false] at h
  rcases h with rfl | rfl | rfl <;> simp [cId, cName, cAt, cOk, colsErr, firstErr, colErr, isName, nameFrom, nameOk, byteAt, index, indexFrom, ByteArray.toList_eq, ByteArray.size]
theorem noStr_at : noStr ⟨#[97, 116]⟩ = false := by rw [noStr, ByteArray.toList_eq]; rfl
theorem wCols_find {cols : List Col} (h : cols ∈ wCols) {Z : Zone} (hZ : zoneErr Z = 0) : (findS cols ⟨#[97, 116]⟩ Z).2 = 0 := by
  have hc := wCols_ok cols h
  simp only [wCols, List.mem_cons, List.not_mem_nil, or_false] at h
  rcases h with rfl | rfl | rfl
  · have e : index [cId false, cName true, cAt 4 false] ⟨#[97, 116]⟩ = 2 := by simp [index, indexFrom, cId, cName, cAt, ByteArray.toList_eq]
    rw [findS_ok hc (by simp [noStr_at]) (by rw [e]; omega) (by rw [e]; decide)]; exact hZ
  · have e : index [cAt 4 true, cId true, cOk] ⟨#[97, 116]⟩ = 0 := by simp [index, indexFrom, cAt]
    rw [findS_ok hc (by simp [noStr_at]) (by rw [e]; omega) (by rw [e]; decide)]; exact hZ
  · have e : index [cName false, cAt 2 true] ⟨#[97, 116]⟩ = 1 := by simp [index, indexFrom, cName, cAt, ByteArray.toList_eq]
    rw [findS_ok hc (by simp [noStr_at]) (by rw [e]; omega) (by rw [e]; decide)]; exact hZ
theorem scheme_of {cols : List Col} {col : ByteArray} {z : Zone} {rows : List Ent} (h1 : (findS cols col z).2 = 0) (h2 : bagErr rows = 0) (h3 : ∀ x ∈ rows, rowErr cols x.row = 0) : schemeErr cols col z rows = 0 := by
  rw [scheme_rows h1 h2]
  exact fe_zero.2 fun j x hx => h3 x (List.mem_iff_getElem?.2 ⟨j, hx⟩)
theorem TabOf.scheme {cols : List Col} (hc : cols ∈ wCols) {zs : List Ent} (h : TabOf cols zs) {Z : Zone} (hZ : zoneErr Z = 0) : schemeErr cols ⟨#[97, 116]⟩ Z zs = 0 := by
  have hb := h.bag (by have := (wCols_good cols hc).2; omega)
  exact scheme_of (wCols_find hc hZ) hb.1 hb.2.1
end Go.Proofs.YtlbhnfnecfllkaaGreat
