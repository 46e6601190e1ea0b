/-
  warehouseref28.total. (Printed by gen_totr.py.) Plain law: what the closed example of chapter 28 gives. No program is in sight.
-/
import Derived.Deep.DeepCutAuto
import Derived.Deep.DrawnRows
import Derived.Test.YtodapiholjeehaaGreatDoorGap
import Derived.Test.YtodapiholjeehaaGreatDoorText
import Derived.Test.YtodapiholjeehaaGreatDoorExp
import Derived.Test.YtodapiholjeehaaGreatDoorJdg
import Derived.Test.YtodapiholjeehaaGreatDoorGab
namespace Go.Proofs.YtodapiholjeehaaGreatDoor
open Go.RowKit
set_option linter.unusedSimpArgs false
set_option linter.unusedVariables false
attribute [local go_sem ↓] Go.wp_at_zero Go.wp_at_succ
theorem inds_one {cols : List Col} {nm : ByteArray} (h : 0 ≤ index cols nm) : (indsS cols [nm]).1 = 0 := by
  have h1 : indErr cols [nm] = 0 := by simp [indErr, firstErr, indF, hasStr]; omega
  rw [indsS, if_neg (by omega)]
end Go.Proofs.YtodapiholjeehaaGreatDoor

namespace Go.Proofs.YtodapiholjeehaaGreatDoor
set_option linter.unusedSimpArgs false
set_option linter.unusedVariables false
def kA : ByteArray := ⟨#[97]⟩
def kB : ByteArray := ⟨#[98]⟩
def kNo : ByteArray := ⟨#[]⟩
def iV (n : Int) : Val := ⟨2, n, ⟨#[]⟩⟩
def k28Cols : List Col := [⟨kA, 2, false⟩, ⟨kB, 2, false⟩]
def k28Rows : List Ent := [⟨[iV 1, iV 2], 1⟩, ⟨[iV 1, iV 3], 1⟩, ⟨[iV 2, iV 5], 1⟩]
def k28C : Chk := { name := ⟨#[99]⟩, table := kNo, kind := 0, cols := [kA], other := kNo, ocols := [], low := 0, high := 0, cond := [], ln := 0, ld := 0, mn := 0, md := 0, policy := 1 }
def k28T : Chk := { name := ⟨#[116]⟩, table := kNo, kind := 6, cols := [kA], other := kNo, ocols := [kB], low := 0, high := 0, cond := [], ln := 0, ld := 0, mn := 0, md := 0, policy := 2 }
theorem k28_cols : colsErr k28Cols = 0 := by
  simp [k28Cols, kA, kB, colsErr, firstErr, colErr, isName, nameFrom, nameOk, byteAt, index, indexFrom, ByteArray.toList_eq, ByteArray.size]
theorem k28_a : index k28Cols kA = 0 := by simp [k28Cols, index, indexFrom, kA, ByteArray.toList_eq]
theorem k28_b : index k28Cols kB = 1 := by simp [k28Cols, index, indexFrom, kA, kB, ByteArray.toList_eq]
theorem iV_valid {n : Int} (h0 : 0 ≤ n) (h1 : n ≤ 100) : valid (iV n) = true := by
  have h2 : -1073741824 ≤ n := by omega
  have h3 : n ≤ 1073741824 := by omega
  simp [iV, valid, noStr_mt, h2, h3]
theorem k28_row {a b : Int} (h0 : 0 ≤ a) (h1 : a ≤ 100) (h2 : 0 ≤ b) (h3 : b ≤ 100) : rowErr k28Cols [iV a, iV b] = 0 := by
  have v1 := iV_valid h0 h1
  have v2 := iV_valid h2 h3
  simp [rowErr, k28Cols, firstErr, cellErr, v1, v2]
  simp [iV]
theorem k28_ent {a b : Int} (h0 : 0 ≤ a) (h1 : a ≤ 100) (h2 : 0 ≤ b) (h3 : b ≤ 100) : entErr ⟨[iV a, iV b], 1⟩ = 0 := by
  have v1 := iV_valid h0 h1
  have v2 := iV_valid h2 h3
  simp [entErr, firstErr, v1, v2]
theorem k28_bag : bagErr k28Rows = 0 := by
  have e1 := k28_ent (a := 1) (b := 2) (by omega) (by omega) (by omega) (by omega)
  have e2 := k28_ent (a := 1) (b := 3) (by omega) (by omega) (by omega) (by omega)
  have e3 := k28_ent (a := 2) (b := 5) (by omega) (by omega) (by omega) (by omega)
  have e4 : cmpRows [iV 1, iV 2] [iV 1, iV 3] < 0 := cr_cons.2 (.inr ⟨rfl, by decide⟩)
  have e5 : cmpRows [iV 1, iV 3] [iV 2, iV 5] < 0 := by decide
  have e6 : ¬ 0 ≤ cmpRows [iV 1, iV 2] [iV 1, iV 3] := by omega
  have e7 : ¬ 0 ≤ cmpRows [iV 1, iV 3] [iV 2, iV 5] := by omega
  simp [bagErr, k28Rows, firstErr, bagErr1, e1, e2, e3, e6, e7]
theorem k28_tab : tabErr k28Cols k28Rows = 0 := by
  have e1 := k28_row (a := 1) (b := 2) (by omega) (by omega) (by omega) (by omega)
  have e2 := k28_row (a := 1) (b := 3) (by omega) (by omega) (by omega) (by omega)
  have e3 := k28_row (a := 2) (b := 5) (by omega) (by omega) (by omega) (by omega)
  have e4 : isTable k28Rows = true := by rw [isTable_pos k28_bag]; rfl
  rw [tabErr, if_neg (by rw [k28_bag]; simp), if_neg (by rw [e4]; simp)]
  simp [k28Rows, firstErr, e1, e2, e3]
theorem k28_ia : indsS k28Cols [kA] = (0, [0]) := by
  have h := inds_one (cols := k28Cols) (nm := kA) (by rw [k28_a]; omega)
  exact Prod.ext h (by rw [(inds_fit h).1, List.map_cons, List.map_nil, k28_a])
theorem k28_ib : indsS k28Cols [kB] = (0, [1]) := by
  have h := inds_one (cols := k28Cols) (nm := kB) (by rw [k28_b]; omega)
  exact Prod.ext h (by rw [(inds_fit h).1, List.map_cons, List.map_nil, k28_b])
theorem k28_pick {a b : Int} : pickN k28Cols [kA] [iV a, iV b] = [iV a] := by
  rw [pickN, k28_ia]; rfl
theorem k28_chk : chkErr k28C k28Cols [] [] = 0 := by
  simp [chkErr, k28C, k28_cols, usesC, chkCols, k28_ia, usesO]
theorem k28_chkT : chkErr k28T k28Cols k28Cols [] = 0 := by
  simp [chkErr, k28T, k28_cols, usesC, chkCols, k28_ia, k28_ib, usesO]
  simp [k28Cols]
theorem k28_all : allErr k28C k28Cols [] k28Rows [] [] = 0 := by
  rw [allErr, if_neg (by rw [k28_chk]; simp), if_neg (by rw [k28_tab]; simp)]
  simp [k28C, usesO]
theorem k28_allT : allErr k28T k28Cols k28Cols k28Rows k28Rows [] = 0 := by
  rw [allErr, if_neg (by rw [k28_chkT]; simp), if_neg (by rw [k28_tab]; simp)]
  simp [k28_tab]
theorem sameV_no {a b : List Val} (h : a ≠ b) : sameV a b = false := by
  cases q : sameV a b
  · rfl
  · exact absurd (sameV_iff.1 q) h
theorem k28_same1 : sameV [iV 1] [iV 1] = true := sameV_iff.2 rfl
theorem k28_same2 : sameV [iV 2] [iV 1] = false := sameV_no (by simp [iV])
theorem k28_same3 : sameV [iV 1] [iV 2] = false := sameV_no (by simp [iV])
theorem k28_same4 : sameV [iV 2] [iV 2] = true := sameV_iff.2 rfl
theorem k28_viol : violS k28C k28Cols [] k28Rows [] [] = (0, [⟨[iV 1, iV 2], 1⟩, ⟨[iV 1, iV 3], 1⟩]) := by
  have g1 : totC (grp k28Cols [kA] k28Rows [iV 1]) = 2 := by
    simp [grp, k28Rows, k28_pick, k28_same1, k28_same2, k28_same3, k28_same4, totC]
  have g2 : totC (grp k28Cols [kA] k28Rows [iV 2]) = 1 := by
    simp [grp, k28Rows, k28_pick, k28_same1, k28_same2, k28_same3, k28_same4, totC]
  have v1 : ∀ b, violB k28C k28Cols [] k28Rows [] [] [iV 1, iV b] = true := fun b => by
    rw [violB, if_pos (show k28C.kind = 0 from rfl), show k28C.cols = [kA] from rfl, k28_pick, g1]; rfl
  have v2 : ∀ b, violB k28C k28Cols [] k28Rows [] [] [iV 2, iV b] = false := fun b => by
    rw [violB, if_pos (show k28C.kind = 0 from rfl), show k28C.cols = [kA] from rfl, k28_pick, g2]; rfl
  rw [violS, if_neg (by rw [k28_all]; simp)]
  congr 1
  rw [show k28Rows = [⟨[iV 1, iV 2], 1⟩, ⟨[iV 1, iV 3], 1⟩, ⟨[iV 2, iV 5], 1⟩] from rfl] at *
  simp [v1, v2]
theorem k28_exp : expS k28C k28Cols [] k28Rows [] [] [iV 1, iV 2] = (0, ⟨⟨#[99]⟩, [iV 1], [[iV 1, iV 3]]⟩) := by
  have s1 : sameV [iV 1, iV 2] [iV 1, iV 2] = true := sameV_iff.2 rfl
  have s2 : sameV [iV 1, iV 3] [iV 1, iV 2] = false := sameV_no (by simp [iV])
  have s3 : sameV [iV 2, iV 5] [iV 1, iV 2] = false := sameV_no (by simp [iV])
  have c1 : cmpRows [iV 1, iV 2] [iV 1, iV 2] = 0 := cr_zero.2 rfl
  rw [expS, if_neg (by rw [k28_all]; simp), k28_viol, if_neg (by rw [cntF, if_pos c1]; simp), show k28C.cols = [kA] from rfl, k28_pick]
  simp [expRows, k28Rows, k28_pick, s1, s2, s3, k28_same1, k28_same2, k28C]
theorem k28_judge : judgeS k28T k28Cols k28Cols k28Rows k28Rows [] = (0, ⟨⟨#[116]⟩, true, 0, 4, 10⟩) := by
  have t1 : totAt k28Cols [kA] = 0 := by rw [totAt, show ([kA] : List ByteArray).getD 0 default = kA from rfl, k28_a]; rfl
  have t2 : totAt k28Cols [kB] = 1 := by rw [totAt, show ([kB] : List ByteArray).getD 0 default = kB from rfl, k28_b]; rfl
  have c1 : colSum 0 k28Rows = 4 := by simp [colSum, k28Rows, iV]
  have c2 : colSum 1 k28Rows = 10 := by simp [colSum, k28Rows, iV]
  rw [judgeS, if_neg (by rw [k28_allT]; simp), verS, if_neg (by decide), if_pos (by decide), show k28T.cols = [kA] from rfl, show k28T.ocols = [kB] from rfl, t1, t2, c1, c2]
  rfl
end Go.Proofs.YtodapiholjeehaaGreatDoor
