/-
  Plain law: a table of the world is a table: its counts are positive and small, its rows fit. CheckShares, plain: the check's expression over the first columns; the check and its tables have no error; what the law compares. CheckReferences, plain: the sum of two tables is a table; the check and its tables have no error; what a row that finds a partner is.
-/
import Derived.Test.YtggejcekmehocaaGreatDoorGal
import Derived.Test.YtggejcekmehocaaGreatDoorGar
import Derived.Test.YtggejcekmehocaaGreatDoorJdg
import Derived.Test.YtggejcekmehocaaGreatDoorGas
import Derived.Test.YtggejcekmehocaaGreatDoorGaa
import Derived.Test.YtggejcekmehocaaGreatDoorGah
namespace Go.Proofs.YtggejcekmehocaaGreatDoor
set_option linter.unusedSimpArgs false
set_option linter.unusedVariables false
theorem cnt_bd {cols : List Col} {xs : List Ent} (h : ∀ x ∈ xs, TEnt cols x) (r : List Val) : 0 ≤ cnt xs r ∧ cnt xs r ≤ 2 * (xs.length : Int) := by
  induction xs with
  | nil => simp [cnt]
  | cons x l ih =>
    have h1 := (h x (by simp)).2.2
    have h2 := ih fun y hy => h y (by simp [hy])
    rw [cnt, List.length_cons]
    split <;> omega
theorem TabOf.tab {cols : List Col} (hl : cols.length ≤ 12) {zs : List Ent} (h : TabOf cols zs) : (∀ x ∈ zs, 0 < x.count ∧ x.count ≤ 2000) ∧ tabErr cols zs = 0 := by
  obtain ⟨hb, hr, _⟩ := h.bag hl
  obtain ⟨xs, q, h1, h2, h3⟩ := h
  have hn := normed_S h3
  rw [normS_ok fun x hx => tent_ent hl (h1 x hx)] at hn
  have hc : ∀ x ∈ zs, 0 < x.count ∧ x.count ≤ 2000 := by
    intro x hx
    have hz : x.count ≠ 0 := ((bagErr_iff.1 hb).2.1 x hx).2
    rcases bagS_err xs with e | ⟨_, e⟩
    · have c := bagS_cnt e x.row
      rw [hn] at c
      have d := (bag_asc hb).mem hx
      have b := cnt_bd h1 x.row
      have c' : cnt zs x.row = cnt xs x.row := c
      omega
    · rw [hn] at e
      have e' : zs = [] := e
      subst e'
      cases hx
  refine ⟨hc, ?_⟩
  have ht : isTable zs = true := by
    rw [isTable, hb]
    simp only [BEq.rfl, Bool.true_and, List.all_eq_true, decide_eq_true_eq]
    exact fun x hx => by have := hc x hx; omega
  rw [tabErr, if_neg (by simp [hb]), ht, if_neg (by simp)]
  exact fe_zero.2 fun j x hx => hr x (List.mem_iff_getElem?.2 ⟨j, hx⟩)
end Go.Proofs.YtggejcekmehocaaGreatDoor

namespace Go.Proofs.YtggejcekmehocaaGreatDoor
set_option linter.unusedSimpArgs false
set_option linter.unusedVariables false
def shL : List Node := [⟨1, ⟨0, 0, ⟨#[]⟩⟩, ⟨#[105, 100]⟩, 0⟩, ⟨0, ⟨2, 2, ⟨#[]⟩⟩, ⟨#[]⟩, 0⟩, ⟨12, ⟨0, 0, ⟨#[]⟩⟩, ⟨#[]⟩, 0⟩]
def shChk (a b c d : Int) : Chk := ⟨⟨#[99]⟩, ⟨#[]⟩, 5, [], ⟨#[]⟩, [], 0, 0, shL, a, b, c, d, 1⟩
theorem sh_type : (typeS shL shCols []).1 = 0 ∧ (typeS shL shCols []).2.kind = 1 := by
  constructor <;> decide +kernel
theorem sh_row {row : List Val} (h : rowErr shCols row = 0) : ∃ a b c, row = [a, b, c] ∧ a.kind = 2 ∧ a.str.toList = [] ∧ -1073741824 ≤ a.num ∧ a.num ≤ 1073741824 := by
  have hl : row.length = 3 := row_len h
  match row, hl with
  | [a, b, c], _ =>
    have ha := row_cell (i := 0) (v := a) h rfl
    have hv := cellErr_valid ha
    rw [cellErr, hv, if_neg (by simp)] at ha
    have hk : a.kind = 2 := by
      by_cases e : a.kind = 2
      · exact e
      · rw [if_pos] at ha
        · omega
        · by_cases e0 : a.kind = 0
          · exact .inl ⟨e0, rfl⟩
          · exact .inr ⟨e0, e⟩
    rw [valid, if_neg (by omega), if_neg (by omega), if_pos hk] at hv
    simp [noStr] at hv
    exact ⟨a, b, c, rfl, hk, hv.1, hv.2.1, hv.2.2⟩
theorem sh_holds {row : List Val} (h : rowErr shCols row = 0) : holdsB shL shCols row [] = decide ((row.getD 0 default).num < 2) := by
  obtain ⟨a, b, c, rfl, h1, h2, _, _⟩ := sh_row h
  have e : valLoop shCols [a, b, c] [] [] shL = boolV (decide (cmpVal a ⟨2, 2, ⟨#[]⟩⟩ < 0)) := by
    simp [shL, valLoop, restOf, arity, nodeV, opV, binV, shCols, cId, cName, cAt, index, indexFrom, ByteArray.toList_eq, h1]
  have e2 : cmpVal a ⟨2, 2, ⟨#[]⟩⟩ = cmpInt a.num 2 := by
    have i2 : cmpInt a.kind 2 = 0 := by rw [h1]; rfl
    show (if cmpInt a.kind 2 ≠ 0 then cmpInt a.kind 2 else if cmpInt a.num 2 ≠ 0 then cmpInt a.num 2 else cmpStr a.str ⟨#[]⟩) = _
    rw [i2, if_neg (by simp)]
    by_cases q : cmpInt a.num 2 = 0
    · rw [if_neg (by simp [q]), q, cmpStr, h2]
      simp [Op.bytesLess, ByteArray.toList_eq]
    · rw [if_pos q]
  rw [holdsB, evalS, if_neg (by simp [sh_type.1]), if_neg (by simp [h]), e, e2, cmpInt]
  by_cases q : a.num < 2
  · simp [q, boolV, truth, valid, noStr, ByteArray.toList_eq]
  · by_cases q2 : 2 < a.num
    · simp [q, q2, boolV, truth, valid, noStr, ByteArray.toList_eq]
    · simp [q, q2, boolV, truth, valid, noStr, ByteArray.toList_eq]
theorem sh_err {a b c d : Int} (h : (ratioOk a b && ratioOk c d) = true) {rows : List Ent} (hr : TabOf shCols rows) (oc : List Col) (orr : List Ent) : allErr (shChk a b c d) shCols oc rows orr [] = 0 := by
  have h1 := (hr.tab (by simp [shCols])).2
  have h2 := wCols_ok _ sh_in.1
  have h3 : chkCond (shChk a b c d) shCols [] = 0 := by
    rw [chkCond, show (shChk a b c d).cond = shL from rfl, if_neg (by simp [sh_type.1]), if_neg (by simp [sh_type.2])]
  have h4 : chkErr (shChk a b c d) shCols oc [] = 0 := by
    rw [chkErr, if_neg (by simp [shChk]), if_neg (by simp [shChk]), if_neg (by simp [h2]), if_neg (by simp [shChk, usesC]), if_neg (by simp [h3])]
    simp [shChk, h]
  rw [allErr, if_neg (by simp [h4]), if_neg (by simp [h1])]
  simp [shChk, usesO]
theorem totC_filter_le {l : List Ent} (h : ∀ x ∈ l, 0 ≤ x.count) (p : Ent → Bool) : totC (l.filter p) ≤ totC l := by
  induction l with
  | nil => simp
  | cons x l ih =>
    have h1 := h x (by simp)
    have h2 := ih fun y hy => h y (by simp [hy])
    rw [List.filter_cons]
    split
    · rw [totC, totC]; omega
    · rw [totC]; omega
def shPart (rows : List Ent) : Int := totC (rows.filter fun y => decide ((y.row.getD 0 default).num < 2))
theorem sh_sums {rows : List Ent} (hr : TabOf shCols rows) : (0 ≤ shPart rows ∧ shPart rows ≤ totC rows ∧ totC rows ≤ 2000000) ∧ shPart rows = totC (rows.filter fun y => holdsB shL shCols y.row []) := by
  have h1 := hr.tab (by simp [shCols])
  have h2 := hr.bag (by simp [shCols])
  have h3 := totC_bd (l := rows) (C := 2000) fun x hx => by have := h1.1 x hx; omega
  have h4 := totC_bd (l := rows.filter fun y => decide ((y.row.getD 0 default).num < 2)) (C := 2000) fun x hx => by have := h1.1 x (List.mem_filter.1 hx).1; omega
  have h5 := totC_filter_le (l := rows) (fun x hx => by have := h1.1 x hx; omega) fun y => decide ((y.row.getD 0 default).num < 2)
  refine ⟨⟨h4.1, h5, by omega⟩, ?_⟩
  rw [shPart]
  congr 1
  exact List.filter_congr fun x hx => (sh_holds (h2.2.1 x hx)).symm
theorem sh_judge {a b c d : Int} (h : (ratioOk a b && ratioOk c d) = true) {rows : List Ent} (hr : TabOf shCols rows) (oc : List Col) (orr : List Ent) :
    judgeS (shChk a b c d) shCols oc rows orr [] = (0, ⟨⟨#[99]⟩, !(totC rows == 0 || (decide (a * totC rows ≤ shPart rows * b) && decide (shPart rows * d ≤ c * totC rows))), 0, shPart rows, totC rows⟩) := by
  obtain ⟨⟨h1, h2, h3⟩, h4⟩ := sh_sums hr
  rw [judgeS, if_neg (by simp [sh_err h hr oc orr]), verS, if_pos (show (shChk a b c d).kind = 5 from rfl)]
  rw [show (shChk a b c d).cond = shL from rfl, ← h4, withinB, show (shChk a b c d).ln = a from rfl, show (shChk a b c d).ld = b from rfl, show (shChk a b c d).mn = c from rfl, show (shChk a b c d).md = d from rfl]
  simp only [ratioOk, Bool.and_eq_true, decide_eq_true_eq] at h
  have f1 : formedB a b = true := by simp only [formedB, smallI, Bool.and_eq_true, decide_eq_true_eq]; omega
  have f2 : formedB c d = true := by simp only [formedB, smallI, Bool.and_eq_true, decide_eq_true_eq]; omega
  rw [f1, f2, decide_eq_false (by omega), decide_eq_false (by omega), decide_eq_false (by omega)]
  simp [shChk]
end Go.Proofs.YtggejcekmehocaaGreatDoor

namespace Go.Proofs.YtggejcekmehocaaGreatDoor
set_option linter.unusedSimpArgs false
set_option linter.unusedVariables false
theorem TabOf.cnt {cols : List Col} (hl : cols.length ≤ 12) {zs : List Ent} (h : TabOf cols zs) (r : List Val) : 0 ≤ Proofs.YtggejcekmehocaaGreatDoor.cnt zs r ∧ Proofs.YtggejcekmehocaaGreatDoor.cnt zs r ≤ 2000 := by
  have hb := (h.bag hl).1
  by_cases q : ∃ x ∈ zs, x.row = r
  · obtain ⟨x, hx, rfl⟩ := q
    rw [(bag_asc hb).mem hx]
    have := (h.tab hl).1 x hx
    omega
  · rw [cnt_none fun x hx e => q ⟨x, hx, cr_zero.1 e⟩]; omega
theorem add_tab {cols : List Col} (hl : cols.length ≤ 12) {a t : List Ent} (ha : TabOf cols a) (ht : TabOf cols t) : tabErr cols (addS a t).2 = 0 ∧ ∀ y ∈ a, ∃ z ∈ (addS a t).2, z.row = y.row := by
  obtain ⟨a1, a2, a3⟩ := ha.bag hl
  obtain ⟨t1, t2, t3⟩ := ht.bag hl
  have e : addS a t = bagS (a ++ t) := by rw [addS, if_neg (by simp [a1]), if_neg (by simp [t1])]
  have hx : ∀ x ∈ a ++ t, entErr x = 0 := fun x hx => by
    rcases List.mem_append.1 hx with h | h
    · exact bag_ents a1 x h
    · exact bag_ents t1 x h
  have hcn : ∀ r, Proofs.YtggejcekmehocaaGreatDoor.cnt (keepF (sortL (a ++ t))) r = Proofs.YtggejcekmehocaaGreatDoor.cnt a r + Proofs.YtggejcekmehocaaGreatDoor.cnt t r := fun r => by rw [keepF_cnt, sortL_cnt, cnt_app]
  have hlen : (keepF (sortL (a ++ t))).length ≤ (a ++ t).length := len_cnt (keepF_asc (sortL_asc _)) (keepF_noz _) fun r hr => by
    rw [keepF_cnt, sortL_cnt] at hr
    by_cases g : ∃ x ∈ a ++ t, x.row = r
    · exact g
    · exact absurd (cnt_none fun x hx e => g ⟨x, hx, cr_zero.1 e⟩) hr
  have hres : resErr 0 (sortL (a ++ t)) = false := by
    rw [← resErr_keep]
    refine (resErr_iff _ 0 (keepF_noz _) (by omega)).2 ⟨fun x hx => ?_, by rw [List.length_append] at hlen; omega⟩
    have h1 := (keepF_asc (sortL_asc (a ++ t))).mem hx
    rw [hcn] at h1
    have h2 := ha.cnt hl x.row
    have h3 := ht.cnt hl x.row
    omega
  have ok : (bagS (a ++ t)).1 = 0 := by rw [bagS, hres]; rfl
  have hb := bagS_ok hx
  have hc := bagS_cnt ok
  have hrw := bagS_rows (P := fun r => rowErr cols r = 0) (xs := a ++ t) fun x hx => by
    rcases List.mem_append.1 hx with h | h
    · exact a2 x h
    · exact t2 x h
  rw [e]
  have hpos : ∀ x ∈ (bagS (a ++ t)).2, 0 ≤ x.count := fun x hx => by
    have h1 := (bag_asc hb).mem hx
    rw [hc, cnt_app] at h1
    have h2 := ha.cnt hl x.row
    have h3 := ht.cnt hl x.row
    omega
  constructor
  · have htb : isTable (bagS (a ++ t)).2 = true := by
      rw [isTable, hb]
      simp only [BEq.rfl, Bool.true_and, List.all_eq_true, decide_eq_true_eq]
      exact hpos
    rw [tabErr, if_neg (by simp [hb]), htb, if_neg (by simp)]
    exact fe_zero.2 fun j x hx => hrw x (List.mem_iff_getElem?.2 ⟨j, hx⟩)
  · intro y hy
    have h1 := (bag_asc a1).mem hy
    have h2 := (ha.tab hl).1 y hy
    have h3 := ht.cnt hl y.row
    exact (mem_cnt hb).1 (by rw [hc, cnt_app]; omega)
def reNm : ByteArray := ⟨#[110, 97, 109, 101]⟩
def reChk : Chk := ⟨⟨#[99]⟩, ⟨#[]⟩, 3, [reNm], ⟨#[111]⟩, [reNm], 0, 0, [], 0, 0, 0, 0, 0⟩
theorem re_inds : indsS shCols [reNm] = (0, [1]) ∧ indsS reO [reNm] = (0, [0]) := by
  constructor <;> decide +kernel
theorem re_chk : chkErr reChk shCols reO [] = 0 := by
  have h1 := wCols_ok _ sh_in.1
  have h2 := wCols_ok _ sh_in.2
  rw [chkErr, if_neg (by simp [reChk]), if_neg (by simp [reChk]), if_neg (by simp [h1]), if_pos (by simp [reChk, usesC]), chkCols, show reChk.cols = [reNm] from rfl, show reChk.ocols = [reNm] from rfl, re_inds.1, re_inds.2, h2]
  simp [reChk, usesO, shCols, reO, cName, cId, cAt]
theorem re_err {rows orows : List Ent} (hr : TabOf shCols rows) (ho : tabErr reO orows = 0) : allErr reChk shCols reO rows orows [] = 0 := by
  rw [allErr, if_neg (by simp [re_chk]), if_neg (by simp [(hr.tab (by simp [shCols])).2]), if_pos (by simp [reChk, usesO]), ho]
def eqV (a b : Val) : Bool := a.kind == b.kind && a.num == b.num && a.str.toList == b.str.toList
theorem eqV_iff {a b : Val} : eqV a b = true ↔ a = b := val_beq
def found (orows : List Ent) (v : Val) : Bool := orows.any fun y => eqV (y.row.getD 0 default) v
theorem re_pick {row : List Val} (h : rowErr shCols row = 0) : pickN shCols [reNm] row = [row.getD 1 default] := by
  have hl : row.length = 3 := row_len h
  match row, hl with
  | [a, b, c], _ => simp [pickN, re_inds.1, pickV]
theorem re_pickO {row : List Val} (h : rowErr reO row = 0) : pickN reO [reNm] row = [row.getD 0 default] := by
  have hl : row.length = 2 := row_len h
  match row, hl with
  | [a, b], _ => simp [pickN, re_inds.2, pickV]
theorem re_viol {rows orows : List Ent} (ho : tabErr reO orows = 0) {row : List Val} (h : rowErr shCols row = 0) : violB reChk shCols reO rows orows [] row = ((row.getD 1 default).kind != 0 && !found orows (row.getD 1 default)) := by
  have hf : (grp reO [reNm] orows (pickN shCols [reNm] row)).isEmpty = !found orows (row.getD 1 default) := by
    rw [re_pick h, grp, found]
    cases q : orows.any fun y => eqV (y.row.getD 0 default) (row.getD 1 default)
    · have q' := List.any_eq_false.1 q
      rw [List.filter_eq_nil_iff.2 fun y hy e => q' y hy ?_]
      · rfl
      · rw [sameV_iff, re_pickO ((tabErr_zero ho).2.2 y hy)] at e
        exact eqV_iff.2 (by injection e)
    · obtain ⟨y, hy, e⟩ := List.any_eq_true.1 q
      have hm : y ∈ orows.filter fun x => sameV (pickN reO [reNm] x.row) [row.getD 1 default] := List.mem_filter.2 ⟨hy, sameV_iff.2 (by rw [re_pickO ((tabErr_zero ho).2.2 y hy), eqV_iff.1 e])⟩
      cases hq : orows.filter fun x => sameV (pickN reO [reNm] x.row) [row.getD 1 default]
      · rw [hq] at hm; cases hm
      · rfl
  have hn : nullIn (pickN shCols [reNm] row) = ((row.getD 1 default).kind == 0) := by rw [re_pick h]; simp [nullIn]
  rw [violB, if_neg (by simp [reChk]), if_neg (by simp [reChk]), if_neg (by simp [reChk]), if_pos (by simp [reChk]), show reChk.cols = [reNm] from rfl, show reChk.ocols = [reNm] from rfl, hf, hn]
  rfl
theorem found_more {orows more : List Ent} (h : ∀ y ∈ orows, ∃ z ∈ more, z.row = y.row) {v : Val} (hv : found orows v = true) : found more v = true := by
  obtain ⟨y, hy, e⟩ := List.any_eq_true.1 hv
  obtain ⟨z, hz, hr⟩ := h y hy
  exact List.any_eq_true.2 ⟨z, hz, by rw [hr]; exact e⟩
theorem re_viols {rows orows : List Ent} (hr : TabOf shCols rows) (ho : tabErr reO orows = 0) : violS reChk shCols reO rows orows [] = (0, rows.filter fun x => (x.row.getD 1 default).kind != 0 && !found orows (x.row.getD 1 default)) := by
  rw [violS, if_neg (by simp [re_err hr ho])]
  congr 1
  exact List.filter_congr fun x hx => re_viol ho ((hr.bag (by simp [shCols])).2.1 x hx)
theorem re_count {rows : List Ent} (hr : TabOf shCols rows) (p : List Val → Bool) {x : Ent} (hx : x ∈ rows) : cntF (rows.filter fun x => p x.row) x.row = if p x.row = true then x.count else 0 := by
  have hb := (hr.bag (by simp [shCols])).1
  rw [((bag_asc hb).filter _).cntF]
  split
  · next q => rw [cnt_filter_of fun y hy e => by rw [e]; exact q, (bag_asc hb).mem hx]
  · next q => exact cnt_filter_no fun y hy e => by rw [e]; simpa using q
end Go.Proofs.YtggejcekmehocaaGreatDoor
