/-
  warehouseref28.Validate: checks with conditions; whole. (Printed by gen_valr.py.)
-/
import Derived.Test.YtodapiholjeehaaGreatDoorChkS
namespace Go.Proofs.YtodapiholjeehaaGreatDoor
open Go.RowKit
set_option linter.unusedSimpArgs false
set_option linter.unusedVariables false
def ratLeft (x : Chk) (k : Nat) : Bool := if k = 0 then (ratioOk x.ln x.ld && ratioOk x.mn x.md) else if k = 1 then ratioOk x.mn x.md else true
theorem ratio_ways (n d : Int) : (decide (n < 0) = true ∧ ratioOk n d = false) ∨ (decide (n < 0) = false ∧ decide (1073741824 < n) = true ∧ ratioOk n d = false) ∨ (decide (n < 0) = false ∧ decide (1073741824 < n) = false ∧ decide (d < 1) = true ∧ ratioOk n d = false)
    ∨ (decide (n < 0) = false ∧ decide (1073741824 < n) = false ∧ decide (d < 1) = false ∧ decide (1073741824 < d) = true ∧ ratioOk n d = false) ∨ (decide (n < 0) = false ∧ decide (1073741824 < n) = false ∧ decide (d < 1) = false ∧ decide (1073741824 < d) = false ∧ ratioOk n d = true) := by
  by_cases a1 : n < 0
  · exact .inl ⟨by simpa using a1, by rw [ratioOk]; simp; omega⟩
  by_cases a2 : 1073741824 < n
  · exact .inr (.inl ⟨by simpa using a1, by simpa using a2, by rw [ratioOk]; simp; omega⟩)
  by_cases a3 : d < 1
  · exact .inr (.inr (.inl ⟨by simpa using a1, by simpa using a2, by simpa using a3, by rw [ratioOk]; simp; omega⟩))
  by_cases a4 : 1073741824 < d
  · exact .inr (.inr (.inr (.inl ⟨by simpa using a1, by simpa using a2, by simpa using a3, by simpa using a4, by rw [ratioOk]; simp; omega⟩)))
  · exact .inr (.inr (.inr (.inr ⟨by simpa using a1, by simpa using a2, by simpa using a3, by simpa using a4, by rw [ratioOk]; simp; omega⟩)))
set_option maxHeartbeats 4000000 in
set_option maxRecDepth 100000 in
theorem validate28_c0 (w : World) (x : Chk) (A : Option Addr) (n c : Nat) (hn : In w A n c x.cols) (A' : Option Addr) (n' c' : Nat) (hn' : In w A' n' c' x.ocols) (A'' : Option Addr) (n'' c'' : Nat) (hq : In w A'' n'' c'' x.cond)
    (A1 : Option Addr) (n1 c1 : Nat) (cols : List Col) (hc : In w A1 n1 c1 cols) (A2 : Option Addr) (n2 c2 : Nat) (ocols : List Col) (ho : In w A2 n2 c2 ocols) (A5 : Option Addr) (n5 c5 : Nat) (zs : List Zone) (hz : In w A5 n5 c5 zs) (hb0 : n ≤ 4096) (hb1 : n' ≤ 4096) (hb2 : n1 ≤ 4096) (hb3 : n2 ≤ 4096) (hp : ChkPass x) (k4 : (x.kind == 4) = true) (k5 : (x.kind == 5) = false) (k6 : (x.kind == 6) = false) (p0 : (x.policy == 0) = true) :
    Calls Tryz.prog 34 #[.agg (chkCells x A n c A' n' c' A'' n'' c'').toArray, .slice A1 n1 c1, .slice A2 n2 c2, .slice A5 n5 c5] w fun e w' => e = .returned (.int .i64 (chkErr x cols ocols zs)) ∧ Below w.heap.size w w' := by
  have H5 := hide (by simpa using k5 : ¬ x.kind = 5)
  have HD0 := hide (show chkErr x cols ocols zs = if colsErr cols ≠ 0 then colsErr cols else if chkCond x cols zs ≠ 0 then chkCond x cols zs else if x.kind = 5 ∧ (ratioOk x.ln x.ld && ratioOk x.mn x.md) = false then 1 else 0 from by
    rw [chkErr_parts x cols ocols zs hp.1 hp.2]
    have : usesC x.kind = true := by rw [usesC, k4, k5]; rfl
    rw [this]; simp)
  rw [chkCond] at HD0
  have HCI := cols_i64_of hc
  have HTY := hide fun W hq hc hz => type_ref W A'' n'' c'' x.cond hq A1 n1 c1 cols hc HCI A5 n5 c5 zs hz
  obtain ⟨R, hR⟩ : ∃ R, chkErr x cols ocols zs = R := ⟨_, rfl⟩
  obtain ⟨T, hT⟩ : ∃ T, typeS x.cond cols zs = T := ⟨_, rfl⟩
  obtain ⟨C1, hC1⟩ : ∃ CE, colsErr cols = CE := ⟨_, rfl⟩
  rw [hR, hT, hC1] at HD0
  rw [hT] at HTY
  rw [hR]
  have HC1 := hide hC1
  clear hR hT hC1 HCI
  obtain ⟨te, tk, tn⟩ := T
  simp only at HD0 HTY
  obtain ⟨d1, d2, d3, d4⟩ := hp.dec
  clear hp
  simp only [chkCells]
  go_enter Tryz.func34, Tryz.ntmps34
  have HQ := hide hq
  clear hq
  have HC := hide hc
  clear hc
  have HZ := hide hz
  clear hz
  go_wp2_with fail
  obtain ⟨W1, hW1⟩ : ∃ W, W = w.alloc (.cells #[.string x.name, .string x.table, .int .i64 x.kind, .slice A n c, .string x.other, .slice A' n' c', .int .i64 x.low, .int .i64 x.high, .slice A'' n'' c'', .int .i64 x.ln, .int .i64 x.ld, .int .i64 x.mn, .int .i64 x.md, .int .i64 x.policy] 27) := ⟨_, rfl⟩
  obtain ⟨hbW1, SZW1, g0, g1, g2, g3, g4, g5, g6, g7, g8, g9, g10, g11, g12, g13⟩ := boxed14 hW1 rfl
  rw [← hW1]
  clear hW1
  have HQ := hide (HQ.out.below hbW1)
  have HC := hide (HC.out.below hbW1)
  have HZ := hide (HZ.out.below hbW1)
  have LST1 := hide hbW1
  have SG1 := hide hbW1
  clear hbW1
  have LR := lt_of_cell g0
  go_wp2_with fail
  refine (cols_ref _ A1 n1 c1 cols HC.out).mono ?_
  rintro e w6 ⟨rfl, rfl⟩
  rw [HC1.out]
  by_cases hc1 : C1 = 0
  rotate_left
  · have q0 : (C1 != 0) = true := by simpa using hc1
    obtain rfl : R = C1 := by rw [HD0.out, if_pos hc1]
    go_wp2
    all_goals (try (exfalso; go_light; simp_all; done))
    go_ret
    exact ⟨rfl, SG1.out⟩
  subst hc1
  go_wp2_with fail
  refine (HTY.out _ HQ.out HC.out HZ.out).mono ?_
  rintro e w2 ⟨rfl, hb2⟩
  have HQ := hide (HQ.out.below hb2)
  have HC := hide (HC.out.below hb2)
  have HZ := hide (HZ.out.below hb2)
  have g0 := bat hb2 LR g0
  have g1 := bat hb2 LR g1
  have g2 := bat hb2 LR g2
  have g3 := bat hb2 LR g3
  have g4 := bat hb2 LR g4
  have g5 := bat hb2 LR g5
  have g6 := bat hb2 LR g6
  have g7 := bat hb2 LR g7
  have g8 := bat hb2 LR g8
  have g9 := bat hb2 LR g9
  have g10 := bat hb2 LR g10
  have g11 := bat hb2 LR g11
  have g12 := bat hb2 LR g12
  have g13 := bat hb2 LR g13
  have LR := lt_of_cell g0
  have LST3 := hide hb2
  have SG3 := hide (below_trans SG1.out hb2)
  clear hb2
  by_cases ht : te = 0
  rotate_left
  · have q0 : (te != 0) = true := by simpa using ht
    obtain rfl : R = te := by rw [HD0.out]; simp [ht]
    go_wp2
    all_goals (try (exfalso; go_light; simp_all; done))
    go_ret
    exact ⟨rfl, SG3.out⟩
  subst ht
  by_cases hk1 : tk = 1
  · subst hk1
    have q1 : ((1 : Int) != 1) = false := by decide
    obtain rfl : R = 0 := by rw [HD0.out]; simp [H5.out]
    go_wp2
    all_goals (try (exfalso; go_light; simp_all; done))
    go_ret
    exact ⟨rfl, SG3.out⟩
  · have q1 : (tk != 1) = true := by simpa using hk1
    by_cases hk0 : tk = 0
    · subst hk0
      have q2 : ((0 : Int) != 0) = false := by decide
      obtain rfl : R = 0 := by rw [HD0.out]; simp [H5.out]
      go_wp2
      all_goals (try (exfalso; go_light; simp_all; done))
      go_ret
      exact ⟨rfl, SG3.out⟩
    · have q2 : (tk != 0) = true := by simpa using hk0
      obtain rfl : R = 7 := by rw [HD0.out]; simp [hk1, hk0]
      go_wp2
      all_goals (try (exfalso; go_light; simp_all; done))
      go_ret
      exact ⟨rfl, SG3.out⟩
set_option maxHeartbeats 4000000 in
set_option maxRecDepth 100000 in
theorem validate28_c1 (w : World) (x : Chk) (A : Option Addr) (n c : Nat) (hn : In w A n c x.cols) (A' : Option Addr) (n' c' : Nat) (hn' : In w A' n' c' x.ocols) (A'' : Option Addr) (n'' c'' : Nat) (hq : In w A'' n'' c'' x.cond)
    (A1 : Option Addr) (n1 c1 : Nat) (cols : List Col) (hc : In w A1 n1 c1 cols) (A2 : Option Addr) (n2 c2 : Nat) (ocols : List Col) (ho : In w A2 n2 c2 ocols) (A5 : Option Addr) (n5 c5 : Nat) (zs : List Zone) (hz : In w A5 n5 c5 zs) (hb0 : n ≤ 4096) (hb1 : n' ≤ 4096) (hb2 : n1 ≤ 4096) (hb3 : n2 ≤ 4096) (hp : ChkPass x) (k4 : (x.kind == 4) = true) (k5 : (x.kind == 5) = false) (p0 : (x.policy == 0) = false) :
    Calls Tryz.prog 34 #[.agg (chkCells x A n c A' n' c' A'' n'' c'').toArray, .slice A1 n1 c1, .slice A2 n2 c2, .slice A5 n5 c5] w fun e w' => e = .returned (.int .i64 (chkErr x cols ocols zs)) ∧ Below w.heap.size w w' := by
  have H5 := hide (by simpa using k5 : ¬ x.kind = 5)
  have HD0 := hide (show chkErr x cols ocols zs = if colsErr cols ≠ 0 then colsErr cols else if chkCond x cols zs ≠ 0 then chkCond x cols zs else if x.kind = 5 ∧ (ratioOk x.ln x.ld && ratioOk x.mn x.md) = false then 1 else 0 from by
    rw [chkErr_parts x cols ocols zs hp.1 hp.2]
    have : usesC x.kind = true := by rw [usesC, k4, k5]; rfl
    rw [this]; simp)
  rw [chkCond] at HD0
  have HCI := cols_i64_of hc
  have HTY := hide fun W hq hc hz => type_ref W A'' n'' c'' x.cond hq A1 n1 c1 cols hc HCI A5 n5 c5 zs hz
  obtain ⟨R, hR⟩ : ∃ R, chkErr x cols ocols zs = R := ⟨_, rfl⟩
  obtain ⟨T, hT⟩ : ∃ T, typeS x.cond cols zs = T := ⟨_, rfl⟩
  obtain ⟨C1, hC1⟩ : ∃ CE, colsErr cols = CE := ⟨_, rfl⟩
  rw [hR, hT, hC1] at HD0
  rw [hT] at HTY
  rw [hR]
  have HC1 := hide hC1
  clear hR hT hC1 HCI
  obtain ⟨te, tk, tn⟩ := T
  simp only at HD0 HTY
  obtain ⟨d1, d2, d3, d4⟩ := hp.dec
  clear hp
  simp only [chkCells]
  go_enter Tryz.func34, Tryz.ntmps34
  have HQ := hide hq
  clear hq
  have HC := hide hc
  clear hc
  have HZ := hide hz
  clear hz
  go_wp2_with fail
  obtain ⟨W1, hW1⟩ : ∃ W, W = w.alloc (.cells #[.string x.name, .string x.table, .int .i64 x.kind, .slice A n c, .string x.other, .slice A' n' c', .int .i64 x.low, .int .i64 x.high, .slice A'' n'' c'', .int .i64 x.ln, .int .i64 x.ld, .int .i64 x.mn, .int .i64 x.md, .int .i64 x.policy] 27) := ⟨_, rfl⟩
  obtain ⟨hbW1, SZW1, g0, g1, g2, g3, g4, g5, g6, g7, g8, g9, g10, g11, g12, g13⟩ := boxed14 hW1 rfl
  rw [← hW1]
  clear hW1
  have HQ := hide (HQ.out.below hbW1)
  have HC := hide (HC.out.below hbW1)
  have HZ := hide (HZ.out.below hbW1)
  have LST4 := hide hbW1
  have SG4 := hide hbW1
  clear hbW1
  have LR := lt_of_cell g0
  go_wp2_with fail
  refine (cols_ref _ A1 n1 c1 cols HC.out).mono ?_
  rintro e w6 ⟨rfl, rfl⟩
  rw [HC1.out]
  by_cases hc1 : C1 = 0
  rotate_left
  · have q0 : (C1 != 0) = true := by simpa using hc1
    obtain rfl : R = C1 := by rw [HD0.out, if_pos hc1]
    go_wp2
    all_goals (try (exfalso; go_light; simp_all; done))
    go_ret
    exact ⟨rfl, SG4.out⟩
  subst hc1
  go_wp2_with fail
  refine (HTY.out _ HQ.out HC.out HZ.out).mono ?_
  rintro e w5 ⟨rfl, hb5⟩
  have HQ := hide (HQ.out.below hb5)
  have HC := hide (HC.out.below hb5)
  have HZ := hide (HZ.out.below hb5)
  have g0 := bat hb5 LR g0
  have g1 := bat hb5 LR g1
  have g2 := bat hb5 LR g2
  have g3 := bat hb5 LR g3
  have g4 := bat hb5 LR g4
  have g5 := bat hb5 LR g5
  have g6 := bat hb5 LR g6
  have g7 := bat hb5 LR g7
  have g8 := bat hb5 LR g8
  have g9 := bat hb5 LR g9
  have g10 := bat hb5 LR g10
  have g11 := bat hb5 LR g11
  have g12 := bat hb5 LR g12
  have g13 := bat hb5 LR g13
  have LR := lt_of_cell g0
  have LST6 := hide hb5
  have SG6 := hide (below_trans SG4.out hb5)
  clear hb5
  by_cases ht : te = 0
  rotate_left
  · have q0 : (te != 0) = true := by simpa using ht
    obtain rfl : R = te := by rw [HD0.out]; simp [ht]
    go_wp2
    all_goals (try (exfalso; go_light; simp_all; done))
    go_ret
    exact ⟨rfl, SG6.out⟩
  subst ht
  by_cases hk1 : tk = 1
  · subst hk1
    have q1 : ((1 : Int) != 1) = false := by decide
    obtain rfl : R = 0 := by rw [HD0.out]; simp [H5.out]
    go_wp2
    all_goals (try (exfalso; go_light; simp_all; done))
    go_ret
    exact ⟨rfl, SG6.out⟩
  · have q1 : (tk != 1) = true := by simpa using hk1
    by_cases hk0 : tk = 0
    · subst hk0
      have q2 : ((0 : Int) != 0) = false := by decide
      obtain rfl : R = 0 := by rw [HD0.out]; simp [H5.out]
      go_wp2
      all_goals (try (exfalso; go_light; simp_all; done))
      go_ret
      exact ⟨rfl, SG6.out⟩
    · have q2 : (tk != 0) = true := by simpa using hk0
      obtain rfl : R = 7 := by rw [HD0.out]; simp [hk1, hk0]
      go_wp2
      all_goals (try (exfalso; go_light; simp_all; done))
      go_ret
      exact ⟨rfl, SG6.out⟩
set_option maxHeartbeats 4000000 in
set_option maxRecDepth 100000 in
theorem validate28_c2 (w : World) (x : Chk) (A : Option Addr) (n c : Nat) (hn : In w A n c x.cols) (A' : Option Addr) (n' c' : Nat) (hn' : In w A' n' c' x.ocols) (A'' : Option Addr) (n'' c'' : Nat) (hq : In w A'' n'' c'' x.cond)
    (A1 : Option Addr) (n1 c1 : Nat) (cols : List Col) (hc : In w A1 n1 c1 cols) (A2 : Option Addr) (n2 c2 : Nat) (ocols : List Col) (ho : In w A2 n2 c2 ocols) (A5 : Option Addr) (n5 c5 : Nat) (zs : List Zone) (hz : In w A5 n5 c5 zs) (hb0 : n ≤ 4096) (hb1 : n' ≤ 4096) (hb2 : n1 ≤ 4096) (hb3 : n2 ≤ 4096) (hp : ChkPass x) (k4 : (x.kind == 4) = false) (k5 : (x.kind == 5) = true) (p0 : (x.policy == 0) = false) :
    Calls Tryz.prog 34 #[.agg (chkCells x A n c A' n' c' A'' n'' c'').toArray, .slice A1 n1 c1, .slice A2 n2 c2, .slice A5 n5 c5] w fun e w' => e = .returned (.int .i64 (chkErr x cols ocols zs)) ∧ Below w.heap.size w w' := by
  have H5 := hide (by simpa using k5 : x.kind = 5)
  have HD0 := hide (show chkErr x cols ocols zs = if colsErr cols ≠ 0 then colsErr cols else if chkCond x cols zs ≠ 0 then chkCond x cols zs else if x.kind = 5 ∧ (ratioOk x.ln x.ld && ratioOk x.mn x.md) = false then 1 else 0 from by
    rw [chkErr_parts x cols ocols zs hp.1 hp.2]
    have : usesC x.kind = true := by rw [usesC, k4, k5]; rfl
    rw [this]; simp)
  rw [chkCond] at HD0
  have HCI := cols_i64_of hc
  have HTY := hide fun W hq hc hz => type_ref W A'' n'' c'' x.cond hq A1 n1 c1 cols hc HCI A5 n5 c5 zs hz
  obtain ⟨R, hR⟩ : ∃ R, chkErr x cols ocols zs = R := ⟨_, rfl⟩
  obtain ⟨T, hT⟩ : ∃ T, typeS x.cond cols zs = T := ⟨_, rfl⟩
  obtain ⟨C1, hC1⟩ : ∃ CE, colsErr cols = CE := ⟨_, rfl⟩
  rw [hR, hT, hC1] at HD0
  rw [hT] at HTY
  rw [hR]
  have HC1 := hide hC1
  clear hR hT hC1 HCI
  obtain ⟨te, tk, tn⟩ := T
  simp only at HD0 HTY
  obtain ⟨d1, d2, d3, d4⟩ := hp.dec
  clear hp
  simp only [chkCells]
  go_enter Tryz.func34, Tryz.ntmps34
  have HQ := hide hq
  clear hq
  have HC := hide hc
  clear hc
  have HZ := hide hz
  clear hz
  go_wp2_with fail
  obtain ⟨W1, hW1⟩ : ∃ W, W = w.alloc (.cells #[.string x.name, .string x.table, .int .i64 x.kind, .slice A n c, .string x.other, .slice A' n' c', .int .i64 x.low, .int .i64 x.high, .slice A'' n'' c'', .int .i64 x.ln, .int .i64 x.ld, .int .i64 x.mn, .int .i64 x.md, .int .i64 x.policy] 27) := ⟨_, rfl⟩
  obtain ⟨hbW1, SZW1, g0, g1, g2, g3, g4, g5, g6, g7, g8, g9, g10, g11, g12, g13⟩ := boxed14 hW1 rfl
  rw [← hW1]
  clear hW1
  have HQ := hide (HQ.out.below hbW1)
  have HC := hide (HC.out.below hbW1)
  have HZ := hide (HZ.out.below hbW1)
  have LST7 := hide hbW1
  have SG7 := hide hbW1
  clear hbW1
  have LR := lt_of_cell g0
  go_wp2_with fail
  refine (cols_ref _ A1 n1 c1 cols HC.out).mono ?_
  rintro e w6 ⟨rfl, rfl⟩
  rw [HC1.out]
  by_cases hc1 : C1 = 0
  rotate_left
  · have q0 : (C1 != 0) = true := by simpa using hc1
    obtain rfl : R = C1 := by rw [HD0.out, if_pos hc1]
    go_wp2
    all_goals (try (exfalso; go_light; simp_all; done))
    go_ret
    exact ⟨rfl, SG7.out⟩
  subst hc1
  go_wp2_with fail
  refine (HTY.out _ HQ.out HC.out HZ.out).mono ?_
  rintro e w8 ⟨rfl, hb8⟩
  have HQ := hide (HQ.out.below hb8)
  have HC := hide (HC.out.below hb8)
  have HZ := hide (HZ.out.below hb8)
  have g0 := bat hb8 LR g0
  have g1 := bat hb8 LR g1
  have g2 := bat hb8 LR g2
  have g3 := bat hb8 LR g3
  have g4 := bat hb8 LR g4
  have g5 := bat hb8 LR g5
  have g6 := bat hb8 LR g6
  have g7 := bat hb8 LR g7
  have g8 := bat hb8 LR g8
  have g9 := bat hb8 LR g9
  have g10 := bat hb8 LR g10
  have g11 := bat hb8 LR g11
  have g12 := bat hb8 LR g12
  have g13 := bat hb8 LR g13
  have LR := lt_of_cell g0
  have LST9 := hide hb8
  have SG9 := hide (below_trans SG7.out hb8)
  clear hb8
  by_cases ht : te = 0
  rotate_left
  · have q0 : (te != 0) = true := by simpa using ht
    obtain rfl : R = te := by rw [HD0.out]; simp [ht]
    go_wp2
    all_goals (try (exfalso; go_light; simp_all; done))
    go_ret
    exact ⟨rfl, SG9.out⟩
  subst ht
  by_cases hk1 : tk = 1
  · subst hk1
    have q1 : ((1 : Int) != 1) = false := by decide
    have HRR : Hid (R = if ratLeft x 0 = false then 1 else 0) := hide (by rw [HD0.out, ratLeft]; simp [H5.out])
    clear HD0
    obtain ⟨W3, rfl⟩ : ∃ W, W = w8 := ⟨_, rfl⟩
    go_upto_region 15 with (fail)
    go_wp2_with fail
    obtain ⟨W4, hW4⟩ : ∃ W, W = W3.alloc (.cells #[.int .i64 x.ln, .int .i64 x.ld, .int .i64 x.mn, .int .i64 x.md] 25) := ⟨_, rfl⟩
    obtain ⟨hbW4, SZW4, y0, y1, y2, y3⟩ := boxed4 hW4 rfl
    rw [← hW4]
    clear hW4
    have HQ := hide (HQ.out.below hbW4)
    have HC := hide (HC.out.below hbW4)
    have HZ := hide (HZ.out.below hbW4)
    have g0 := bat hbW4 LR g0
    have g1 := bat hbW4 LR g1
    have g2 := bat hbW4 LR g2
    have g3 := bat hbW4 LR g3
    have g4 := bat hbW4 LR g4
    have g5 := bat hbW4 LR g5
    have g6 := bat hbW4 LR g6
    have g7 := bat hbW4 LR g7
    have g8 := bat hbW4 LR g8
    have g9 := bat hbW4 LR g9
    have g10 := bat hbW4 LR g10
    have g11 := bat hbW4 LR g11
    have g12 := bat hbW4 LR g12
    have g13 := bat hbW4 LR g13
    have LR := lt_of_cell g0
    have LST10 := hide hbW4
    have SG10 := hide hbW4
    clear hbW4
    have L4 := lt_of_cell y0
    go_loopw [92] (fun i wr => ∃ k : Nat, k ≤ 2 ∧ i = .int .i64 k ∧ ratLeft x 0 = ratLeft x k ∧ Below W4.heap.size W4 wr) (fun i _ => 2 - (RowKit.intOf i).toNat)
    case atStart => exact ⟨0, by omega, rfl, rfl, Below.refl _ _⟩
    case round =>
      obtain ⟨k, hk, rfl, heq, hb⟩ := hrel
      have HE := hide heq
      clear heq
      have HQ := hide (HQ.out.below hb)
      have HC := hide (HC.out.below hb)
      have HZ := hide (HZ.out.below hb)
      have g0 := bat hb LR g0
      have g1 := bat hb LR g1
      have g2 := bat hb LR g2
      have g3 := bat hb LR g3
      have g4 := bat hb LR g4
      have g5 := bat hb LR g5
      have g6 := bat hb LR g6
      have g7 := bat hb LR g7
      have g8 := bat hb LR g8
      have g9 := bat hb LR g9
      have g10 := bat hb LR g10
      have g11 := bat hb LR g11
      have g12 := bat hb LR g12
      have g13 := bat hb LR g13
      have LR := lt_of_cell g0
      have y0 := bat hb L4 y0
      have y1 := bat hb L4 y1
      have y2 := bat hb L4 y2
      have y3 := bat hb L4 y3
      have L4 := lt_of_cell y0
      have LST11 := hide hb
      have SG11 := hide hb
      clear hb
      have HLW := hide SG11.out
      have HBW := hide (below_trans (below_trans SG9.out SG10.out) SG11.out)
      by_cases hlt : k < 2
      · have hkk : ∃ rn rd, wr.cell? ⟨W3.heap.size, k * 2, none⟩ = some (.int .i64 rn) ∧ wr.cell? ⟨W3.heap.size, k * 2 + 1, none⟩ = some (.int .i64 rd) ∧ Hid (ratLeft x k = (ratioOk rn rd && ratLeft x (k + 1))) := by
          rcases (by omega : k = 0 ∨ k = 1) with rfl | rfl
          · exact ⟨x.ln, x.ld, y0, y1, hide (by simp [ratLeft])⟩
          · exact ⟨x.mn, x.md, y2, y3, hide (by simp [ratLeft])⟩
        obtain ⟨rn, rd, e0, e1, HRL⟩ := hkk
        have k0 : (0 : Int) ≤ (k : Int) := by omega
        have k1 : (k : Int) < 2 := by omega
        clear y0 y1 y2 y3
        have HBA := hide (below_trans HBW.out (below_alloc (o := .cells #[.int .i64 rn, .int .i64 rd] 25)))
        have HLA := hide (below_trans HLW.out (below_alloc (o := .cells #[.int .i64 rn, .int .i64 rd] 25)))
        rcases ratio_ways rn rd with ⟨a1, hr⟩ | ⟨a1, a2, hr⟩ | ⟨a1, a2, a3, hr⟩ | ⟨a1, a2, a3, a4, hr⟩ | ⟨a1, a2, a3, a4, hr⟩
        · obtain rfl : R = 1 := by rw [HRR.out, HE.out, HRL.out, hr]; simp
          clear hr
          go_wp2
          all_goals (try (exfalso; go_light; simp_all; done))
          go_ret
          exact ⟨rfl, HBA.out⟩
        · obtain rfl : R = 1 := by rw [HRR.out, HE.out, HRL.out, hr]; simp
          clear hr
          go_wp2
          all_goals (try (exfalso; go_light; simp_all; done))
          go_ret
          exact ⟨rfl, HBA.out⟩
        · obtain rfl : R = 1 := by rw [HRR.out, HE.out, HRL.out, hr]; simp
          clear hr
          go_wp2
          all_goals (try (exfalso; go_light; simp_all; done))
          go_ret
          exact ⟨rfl, HBA.out⟩
        · obtain rfl : R = 1 := by rw [HRR.out, HE.out, HRL.out, hr]; simp
          clear hr
          go_wp2
          all_goals (try (exfalso; go_light; simp_all; done))
          go_ret
          exact ⟨rfl, HBA.out⟩
        · have HN : Hid (ratLeft x 0 = ratLeft x (k + 1)) := hide (by rw [HE.out, HRL.out, hr]; simp)
          clear hr
          go_wp2
          all_goals (try (exfalso; go_light; simp_all; done))
          go_roundw
          case rel => exact ⟨k + 1, by omega, by go_num, HN.out, HLA.out⟩
          case measure => simp [RowKit.intOf]; omega
      · obtain rfl : k = 2 := by omega
        obtain rfl : R = 0 := by rw [HRR.out, HE.out]; simp [ratLeft]
        go_wp2
        all_goals (try (exfalso; go_light; simp_all; done))
        go_ret
        exact ⟨rfl, HBW.out⟩
  · have q1 : (tk != 1) = true := by simpa using hk1
    by_cases hk0 : tk = 0
    · subst hk0
      have q2 : ((0 : Int) != 0) = false := by decide
      have HRR : Hid (R = if ratLeft x 0 = false then 1 else 0) := hide (by rw [HD0.out, ratLeft]; simp [H5.out])
      clear HD0
      obtain ⟨W3, rfl⟩ : ∃ W, W = w8 := ⟨_, rfl⟩
      go_upto_region 15 with (fail)
      go_wp2_with fail
      obtain ⟨W4, hW4⟩ : ∃ W, W = W3.alloc (.cells #[.int .i64 x.ln, .int .i64 x.ld, .int .i64 x.mn, .int .i64 x.md] 25) := ⟨_, rfl⟩
      obtain ⟨hbW4, SZW4, y0, y1, y2, y3⟩ := boxed4 hW4 rfl
      rw [← hW4]
      clear hW4
      have HQ := hide (HQ.out.below hbW4)
      have HC := hide (HC.out.below hbW4)
      have HZ := hide (HZ.out.below hbW4)
      have g0 := bat hbW4 LR g0
      have g1 := bat hbW4 LR g1
      have g2 := bat hbW4 LR g2
      have g3 := bat hbW4 LR g3
      have g4 := bat hbW4 LR g4
      have g5 := bat hbW4 LR g5
      have g6 := bat hbW4 LR g6
      have g7 := bat hbW4 LR g7
      have g8 := bat hbW4 LR g8
      have g9 := bat hbW4 LR g9
      have g10 := bat hbW4 LR g10
      have g11 := bat hbW4 LR g11
      have g12 := bat hbW4 LR g12
      have g13 := bat hbW4 LR g13
      have LR := lt_of_cell g0
      have LST12 := hide hbW4
      have SG12 := hide hbW4
      clear hbW4
      have L4 := lt_of_cell y0
      go_loopw [92] (fun i wr => ∃ k : Nat, k ≤ 2 ∧ i = .int .i64 k ∧ ratLeft x 0 = ratLeft x k ∧ Below W4.heap.size W4 wr) (fun i _ => 2 - (RowKit.intOf i).toNat)
      case atStart => exact ⟨0, by omega, rfl, rfl, Below.refl _ _⟩
      case round =>
        obtain ⟨k, hk, rfl, heq, hb⟩ := hrel
        have HE := hide heq
        clear heq
        have HQ := hide (HQ.out.below hb)
        have HC := hide (HC.out.below hb)
        have HZ := hide (HZ.out.below hb)
        have g0 := bat hb LR g0
        have g1 := bat hb LR g1
        have g2 := bat hb LR g2
        have g3 := bat hb LR g3
        have g4 := bat hb LR g4
        have g5 := bat hb LR g5
        have g6 := bat hb LR g6
        have g7 := bat hb LR g7
        have g8 := bat hb LR g8
        have g9 := bat hb LR g9
        have g10 := bat hb LR g10
        have g11 := bat hb LR g11
        have g12 := bat hb LR g12
        have g13 := bat hb LR g13
        have LR := lt_of_cell g0
        have y0 := bat hb L4 y0
        have y1 := bat hb L4 y1
        have y2 := bat hb L4 y2
        have y3 := bat hb L4 y3
        have L4 := lt_of_cell y0
        have LST13 := hide hb
        have SG13 := hide hb
        clear hb
        have HLW := hide SG13.out
        have HBW := hide (below_trans (below_trans SG9.out SG12.out) SG13.out)
        by_cases hlt : k < 2
        · have hkk : ∃ rn rd, wr.cell? ⟨W3.heap.size, k * 2, none⟩ = some (.int .i64 rn) ∧ wr.cell? ⟨W3.heap.size, k * 2 + 1, none⟩ = some (.int .i64 rd) ∧ Hid (ratLeft x k = (ratioOk rn rd && ratLeft x (k + 1))) := by
            rcases (by omega : k = 0 ∨ k = 1) with rfl | rfl
            · exact ⟨x.ln, x.ld, y0, y1, hide (by simp [ratLeft])⟩
            · exact ⟨x.mn, x.md, y2, y3, hide (by simp [ratLeft])⟩
          obtain ⟨rn, rd, e0, e1, HRL⟩ := hkk
          have k0 : (0 : Int) ≤ (k : Int) := by omega
          have k1 : (k : Int) < 2 := by omega
          clear y0 y1 y2 y3
          have HBA := hide (below_trans HBW.out (below_alloc (o := .cells #[.int .i64 rn, .int .i64 rd] 25)))
          have HLA := hide (below_trans HLW.out (below_alloc (o := .cells #[.int .i64 rn, .int .i64 rd] 25)))
          rcases ratio_ways rn rd with ⟨a1, hr⟩ | ⟨a1, a2, hr⟩ | ⟨a1, a2, a3, hr⟩ | ⟨a1, a2, a3, a4, hr⟩ | ⟨a1, a2, a3, a4, hr⟩
          · obtain rfl : R = 1 := by rw [HRR.out, HE.out, HRL.out, hr]; simp
            clear hr
            go_wp2
            all_goals (try (exfalso; go_light; simp_all; done))
            go_ret
            exact ⟨rfl, HBA.out⟩
          · obtain rfl : R = 1 := by rw [HRR.out, HE.out, HRL.out, hr]; simp
            clear hr
            go_wp2
            all_goals (try (exfalso; go_light; simp_all; done))
            go_ret
            exact ⟨rfl, HBA.out⟩
          · obtain rfl : R = 1 := by rw [HRR.out, HE.out, HRL.out, hr]; simp
            clear hr
            go_wp2
            all_goals (try (exfalso; go_light; simp_all; done))
            go_ret
            exact ⟨rfl, HBA.out⟩
          · obtain rfl : R = 1 := by rw [HRR.out, HE.out, HRL.out, hr]; simp
            clear hr
            go_wp2
            all_goals (try (exfalso; go_light; simp_all; done))
            go_ret
            exact ⟨rfl, HBA.out⟩
          · have HN : Hid (ratLeft x 0 = ratLeft x (k + 1)) := hide (by rw [HE.out, HRL.out, hr]; simp)
            clear hr
            go_wp2
            all_goals (try (exfalso; go_light; simp_all; done))
            go_roundw
            case rel => exact ⟨k + 1, by omega, by go_num, HN.out, HLA.out⟩
            case measure => simp [RowKit.intOf]; omega
        · obtain rfl : k = 2 := by omega
          obtain rfl : R = 0 := by rw [HRR.out, HE.out]; simp [ratLeft]
          go_wp2
          all_goals (try (exfalso; go_light; simp_all; done))
          go_ret
          exact ⟨rfl, HBW.out⟩
    · have q2 : (tk != 0) = true := by simpa using hk0
      obtain rfl : R = 7 := by rw [HD0.out]; simp [hk1, hk0]
      go_wp2
      all_goals (try (exfalso; go_light; simp_all; done))
      go_ret
      exact ⟨rfl, SG9.out⟩
theorem validate28_ref (w : World) (x : Chk) (A : Option Addr) (n c : Nat) (hn : In w A n c x.cols) (A' : Option Addr) (n' c' : Nat) (hn' : In w A' n' c' x.ocols) (A'' : Option Addr) (n'' c'' : Nat) (hq : In w A'' n'' c'' x.cond)
    (A1 : Option Addr) (n1 c1 : Nat) (cols : List Col) (hc : In w A1 n1 c1 cols) (A2 : Option Addr) (n2 c2 : Nat) (ocols : List Col) (ho : In w A2 n2 c2 ocols) (A5 : Option Addr) (n5 c5 : Nat) (zs : List Zone) (hz : In w A5 n5 c5 zs) (hb0 : n ≤ 4096) (hb1 : n' ≤ 4096) (hb2 : n1 ≤ 4096) (hb3 : n2 ≤ 4096) :
    Calls Tryz.prog 34 #[.agg (chkCells x A n c A' n' c' A'' n'' c'').toArray, .slice A1 n1 c1, .slice A2 n2 c2, .slice A5 n5 c5] w fun e w' => e = .returned (.int .i64 (chkErr x cols ocols zs)) ∧ Below w.heap.size w w' := by
  by_cases hp : ChkPass x
  · by_cases h4 : x.kind = 4
    · have k4 : (x.kind == 4) = true := by simpa using h4
      have k5 : (x.kind == 5) = false := by rw [h4]; rfl
      cases p0 : (x.policy == 0)
      · exact validate28_c1 w x A n c hn A' n' c' hn' A'' n'' c'' hq A1 n1 c1 cols hc A2 n2 c2 ocols ho A5 n5 c5 zs hz hb0 hb1 hb2 hb3 hp k4 k5 p0
      · exact validate28_c0 w x A n c hn A' n' c' hn' A'' n'' c'' hq A1 n1 c1 cols hc A2 n2 c2 ocols ho A5 n5 c5 zs hz hb0 hb1 hb2 hb3 hp k4 k5 (by rw [h4]; rfl) p0
    · by_cases h5 : x.kind = 5
      · have k5 : (x.kind == 5) = true := by simpa using h5
        have k4 : (x.kind == 4) = false := by rw [h5]; rfl
        have p0 : (x.policy == 0) = false := by
          have := hp.2
          simp only [beq_eq_false_iff_ne]
          omega
        exact validate28_c2 w x A n c hn A' n' c' hn' A'' n'' c'' hq A1 n1 c1 cols hc A2 n2 c2 ocols ho A5 n5 c5 zs hz hb0 hb1 hb2 hb3 hp k4 k5 p0
      · exact validate28_cols w x A n c hn A' n' c' hn' A'' n'' c'' hq A1 n1 c1 cols hc A2 n2 c2 ocols ho A5 n5 c5 zs hz hb0 hb1 hb2 hb3 hp h4 h5
  · exact validate28_err w x A n c A' n' c' A'' n'' c'' _ _ _ hp cols ocols zs
end Go.Proofs.YtodapiholjeehaaGreatDoor
