/-
  warehouseref28.Validate. (Printed by gen_valr.py.)
-/
import Derived.Test.YtodapiholjeehaaGreatDoorChkR
import Derived.Test.YtodapiholjeehaaGreatDoorTypR
namespace Go.Proofs.YtodapiholjeehaaGreatDoor
open Go.RowKit
set_option linter.unusedSimpArgs false
set_option linter.unusedVariables false
def ChkPass (x : Chk) : Prop := ¬ (x.kind < 0 ∨ 6 < x.kind ∨ x.policy < 0 ∨ 2 < x.policy) ∧ ¬ (x.policy = 0 ∧ (x.kind = 5 ∨ x.kind = 6))
theorem ChkPass.dec {x : Chk} (h : ChkPass x) : decide (x.kind < 0) = false ∧ decide (6 < x.kind) = false ∧ decide (x.policy < 0) = false ∧ decide (2 < x.policy) = false := by
  obtain ⟨h1, _⟩ := h
  refine ⟨?_, ?_, ?_, ?_⟩ <;> simp <;> omega
set_option maxHeartbeats 2000000 in
set_option maxRecDepth 100000 in
theorem validate28_err (w : World) (x : Chk) (A : Option Addr) (n c : Nat) (A' : Option Addr) (n' c' : Nat) (A'' : Option Addr) (n'' c'' : Nat) (a1 a2 a5 : Value) (h : ¬ ChkPass x) (cols ocols : List Col) (zs : List Zone) :
    Calls Tryz.prog 34 #[.agg (chkCells x A n c A' n' c' A'' n'' c'').toArray, a1, a2, a5] w fun e w' => e = .returned (.int .i64 (chkErr x cols ocols zs)) ∧ Below w.heap.size w w' := by
  have hA : (decide (x.kind < 0) = true ∧ chkErr x cols ocols zs = 1) ∨ (decide (x.kind < 0) = false ∧ decide (6 < x.kind) = true ∧ chkErr x cols ocols zs = 1) ∨ (decide (x.kind < 0) = false ∧ decide (6 < x.kind) = false ∧ decide (x.policy < 0) = true ∧ chkErr x cols ocols zs = 1)
      ∨ (decide (x.kind < 0) = false ∧ decide (6 < x.kind) = false ∧ decide (x.policy < 0) = false ∧ decide (2 < x.policy) = true ∧ chkErr x cols ocols zs = 1)
      ∨ (decide (x.kind < 0) = false ∧ decide (6 < x.kind) = false ∧ decide (x.policy < 0) = false ∧ decide (2 < x.policy) = false ∧ (((x.policy == 0) = true ∧ (x.kind == 5) = true ∧ chkErr x cols ocols zs = 7) ∨ ((x.policy == 0) = true ∧ (x.kind == 5) = false ∧ (x.kind == 6) = true ∧ chkErr x cols ocols zs = 7))) := by
    by_cases a1 : x.kind < 0
    · exact .inl ⟨by simpa using a1, by rw [chkErr, if_pos (.inl a1)]⟩
    by_cases a2 : 6 < x.kind
    · exact .inr (.inl ⟨by simpa using a1, by simpa using a2, by rw [chkErr, if_pos (.inr (.inl a2))]⟩)
    by_cases a3 : x.policy < 0
    · exact .inr (.inr (.inl ⟨by simpa using a1, by simpa using a2, by simpa using a3, by rw [chkErr, if_pos (.inr (.inr (.inl a3)))]⟩))
    by_cases a4 : 2 < x.policy
    · exact .inr (.inr (.inr (.inl ⟨by simpa using a1, by simpa using a2, by simpa using a3, by simpa using a4, by rw [chkErr, if_pos (.inr (.inr (.inr a4)))]⟩)))
    have b : ¬ (x.kind < 0 ∨ 6 < x.kind ∨ x.policy < 0 ∨ 2 < x.policy) := by omega
    have d : x.policy = 0 ∧ (x.kind = 5 ∨ x.kind = 6) := by
      rw [ChkPass] at h
      exact Classical.byContradiction fun q => h ⟨b, q⟩
    refine .inr (.inr (.inr (.inr ⟨by simpa using a1, by simpa using a2, by simpa using a3, by simpa using a4, ?_⟩)))
    by_cases a6 : x.kind = 5
    · exact .inl ⟨by simpa using d.1, by simpa using a6, by rw [chkErr, if_neg b, if_pos d]⟩
    · exact .inr ⟨by simpa using d.1, by simpa using a6, by have := d.2; simp; omega, by rw [chkErr, if_neg b, if_pos d]⟩
  clear h
  generalize chkErr x cols ocols zs = R at *
  simp only [chkCells]
  rcases hA with ⟨d1, rfl⟩ | ⟨d1, d2, rfl⟩ | ⟨d1, d2, d3, rfl⟩ | ⟨d1, d2, d3, d4, rfl⟩ | ⟨d1, d2, d3, d4, ⟨d5, d6, rfl⟩ | ⟨d5, d6, d7, rfl⟩⟩
  · go_enter Tryz.func34, Tryz.ntmps34
    go_wp2_with fail
    obtain ⟨W1, hW1⟩ : ∃ W, W = w.alloc (.cells #[.string x.name, .string x.table, .int .i64 x.kind, .slice A n c, .string x.other, .slice A' n' c', .int .i64 x.low, .int .i64 x.high, .slice A'' n'' c'', .int .i64 x.ln, .int .i64 x.ld, .int .i64 x.mn, .int .i64 x.md, .int .i64 x.policy] 27) := ⟨_, rfl⟩
    obtain ⟨hbW1, SZW1, g0, g1, g2, g3, g4, g5, g6, g7, g8, g9, g10, g11, g12, g13⟩ := boxed14 hW1 rfl
    rw [← hW1]
    clear hW1
    have LST1 := hide hbW1
    have SG1 := hide hbW1
    clear hbW1
    have LR := lt_of_cell g0
    go_wp2
    all_goals (try (exfalso; go_light; simp_all; done))
    go_ret
    exact ⟨rfl, SG1.out⟩
  · go_enter Tryz.func34, Tryz.ntmps34
    go_wp2_with fail
    obtain ⟨W1, hW1⟩ : ∃ W, W = w.alloc (.cells #[.string x.name, .string x.table, .int .i64 x.kind, .slice A n c, .string x.other, .slice A' n' c', .int .i64 x.low, .int .i64 x.high, .slice A'' n'' c'', .int .i64 x.ln, .int .i64 x.ld, .int .i64 x.mn, .int .i64 x.md, .int .i64 x.policy] 27) := ⟨_, rfl⟩
    obtain ⟨hbW1, SZW1, g0, g1, g2, g3, g4, g5, g6, g7, g8, g9, g10, g11, g12, g13⟩ := boxed14 hW1 rfl
    rw [← hW1]
    clear hW1
    have LST2 := hide hbW1
    have SG2 := hide hbW1
    clear hbW1
    have LR := lt_of_cell g0
    go_wp2
    all_goals (try (exfalso; go_light; simp_all; done))
    go_ret
    exact ⟨rfl, SG2.out⟩
  · go_enter Tryz.func34, Tryz.ntmps34
    go_wp2_with fail
    obtain ⟨W1, hW1⟩ : ∃ W, W = w.alloc (.cells #[.string x.name, .string x.table, .int .i64 x.kind, .slice A n c, .string x.other, .slice A' n' c', .int .i64 x.low, .int .i64 x.high, .slice A'' n'' c'', .int .i64 x.ln, .int .i64 x.ld, .int .i64 x.mn, .int .i64 x.md, .int .i64 x.policy] 27) := ⟨_, rfl⟩
    obtain ⟨hbW1, SZW1, g0, g1, g2, g3, g4, g5, g6, g7, g8, g9, g10, g11, g12, g13⟩ := boxed14 hW1 rfl
    rw [← hW1]
    clear hW1
    have LST3 := hide hbW1
    have SG3 := hide hbW1
    clear hbW1
    have LR := lt_of_cell g0
    go_wp2
    all_goals (try (exfalso; go_light; simp_all; done))
    go_ret
    exact ⟨rfl, SG3.out⟩
  · go_enter Tryz.func34, Tryz.ntmps34
    go_wp2_with fail
    obtain ⟨W1, hW1⟩ : ∃ W, W = w.alloc (.cells #[.string x.name, .string x.table, .int .i64 x.kind, .slice A n c, .string x.other, .slice A' n' c', .int .i64 x.low, .int .i64 x.high, .slice A'' n'' c'', .int .i64 x.ln, .int .i64 x.ld, .int .i64 x.mn, .int .i64 x.md, .int .i64 x.policy] 27) := ⟨_, rfl⟩
    obtain ⟨hbW1, SZW1, g0, g1, g2, g3, g4, g5, g6, g7, g8, g9, g10, g11, g12, g13⟩ := boxed14 hW1 rfl
    rw [← hW1]
    clear hW1
    have LST4 := hide hbW1
    have SG4 := hide hbW1
    clear hbW1
    have LR := lt_of_cell g0
    go_wp2
    all_goals (try (exfalso; go_light; simp_all; done))
    go_ret
    exact ⟨rfl, SG4.out⟩
  · go_enter Tryz.func34, Tryz.ntmps34
    go_wp2_with fail
    obtain ⟨W1, hW1⟩ : ∃ W, W = w.alloc (.cells #[.string x.name, .string x.table, .int .i64 x.kind, .slice A n c, .string x.other, .slice A' n' c', .int .i64 x.low, .int .i64 x.high, .slice A'' n'' c'', .int .i64 x.ln, .int .i64 x.ld, .int .i64 x.mn, .int .i64 x.md, .int .i64 x.policy] 27) := ⟨_, rfl⟩
    obtain ⟨hbW1, SZW1, g0, g1, g2, g3, g4, g5, g6, g7, g8, g9, g10, g11, g12, g13⟩ := boxed14 hW1 rfl
    rw [← hW1]
    clear hW1
    have LST5 := hide hbW1
    have SG5 := hide hbW1
    clear hbW1
    have LR := lt_of_cell g0
    go_wp2
    all_goals (try (exfalso; go_light; simp_all; done))
    go_ret
    exact ⟨rfl, SG5.out⟩
  · go_enter Tryz.func34, Tryz.ntmps34
    go_wp2_with fail
    obtain ⟨W1, hW1⟩ : ∃ W, W = w.alloc (.cells #[.string x.name, .string x.table, .int .i64 x.kind, .slice A n c, .string x.other, .slice A' n' c', .int .i64 x.low, .int .i64 x.high, .slice A'' n'' c'', .int .i64 x.ln, .int .i64 x.ld, .int .i64 x.mn, .int .i64 x.md, .int .i64 x.policy] 27) := ⟨_, rfl⟩
    obtain ⟨hbW1, SZW1, g0, g1, g2, g3, g4, g5, g6, g7, g8, g9, g10, g11, g12, g13⟩ := boxed14 hW1 rfl
    rw [← hW1]
    clear hW1
    have LST6 := hide hbW1
    have SG6 := hide hbW1
    clear hbW1
    have LR := lt_of_cell g0
    go_wp2
    all_goals (try (exfalso; go_light; simp_all; done))
    go_ret
    exact ⟨rfl, SG6.out⟩
set_option maxHeartbeats 4000000 in
set_option maxRecDepth 100000 in
theorem validate28_w0 (w : World) (x : Chk) (A : Option Addr) (n c : Nat) (hn : In w A n c x.cols) (A' : Option Addr) (n' c' : Nat) (hn' : In w A' n' c' x.ocols) (A'' : Option Addr) (n'' c'' : Nat) (hq : In w A'' n'' c'' x.cond)
    (A1 : Option Addr) (n1 c1 : Nat) (cols : List Col) (hc : In w A1 n1 c1 cols) (A2 : Option Addr) (n2 c2 : Nat) (ocols : List Col) (ho : In w A2 n2 c2 ocols) (A5 : Option Addr) (n5 c5 : Nat) (zs : List Zone) (hz : In w A5 n5 c5 zs) (hb0 : n ≤ 4096) (hb1 : n' ≤ 4096) (hb2 : n1 ≤ 4096) (hb3 : n2 ≤ 4096) (hp : ChkPass x) (h4 : ¬ x.kind = 4) (h5 : ¬ x.kind = 5) (p0 : (x.policy == 0) = true) (h6 : (x.kind == 6) = false) (h2 : (x.kind == 2) = true) :
    Calls Tryz.prog 34 #[.agg (chkCells x A n c A' n' c' A'' n'' c'').toArray, .slice A1 n1 c1, .slice A2 n2 c2, .slice A5 n5 c5] w fun e w' => e = .returned (.int .i64 (chkErr x cols ocols zs)) ∧ Below w.heap.size w w' := by
  have HD0 := hide (show chkErr x cols ocols zs = if colsErr cols ≠ 0 then colsErr cols else chkCols x cols ocols from by
    rw [chkErr_parts x cols ocols zs hp.1 hp.2]
    have : usesC x.kind = false := by rw [usesC]; simp [h4, h5]
    rw [this]; simp)
  rw [chkCols_eq x cols ocols] at HD0
  have HI1 := hide fun W hx hy => indices_ref W A1 n1 c1 cols hx A n c x.cols hy (by omega) (by omega)
  have HI2 := hide fun W hx hy => indices_ref W A2 n2 c2 ocols hx A' n' c' x.ocols hy (by omega) (by omega)
  have HR1 := hide (fun h => inds_rng (cols := cols) (names := x.cols) h)
  have HR2 := hide (fun h => inds_rng (cols := ocols) (names := x.ocols) h)
  have HLN1 := hide (Nat.le_trans (inds_len cols x.cols) (by rw [hn.len]; exact hb0))
  have HLN2 := hide (Nat.le_trans (inds_len ocols x.ocols) (by rw [hn'.len]; exact hb1))
  have HCL := hide hc.len
  have HOL := hide ho.len
  obtain ⟨R, hR⟩ : ∃ R, chkErr x cols ocols zs = R := ⟨_, rfl⟩
  obtain ⟨I1, hI1⟩ : ∃ I, indsS cols x.cols = I := ⟨_, rfl⟩
  obtain ⟨I2, hI2⟩ : ∃ I, indsS ocols x.ocols = I := ⟨_, rfl⟩
  obtain ⟨U, hU⟩ : ∃ U, usesO x.kind = U := ⟨_, rfl⟩
  rw [hR, hI1, hI2, hU] at HD0
  rw [hI1] at HI1 HR1 HLN1
  rw [hI2] at HI2 HR2 HLN2
  rw [hR]
  have HU := hide hU
  clear hR hI1 hI2 hU
  obtain ⟨ie, is⟩ := I1
  obtain ⟨oe, os⟩ := I2
  simp only at HD0 HI1 HI2 HR1 HR2 HLN1 HLN2
  obtain ⟨K0, hK0⟩ : ∃ K, (cols.getD (is.getD 0 0).toNat default).kind = K := ⟨_, rfl⟩
  rw [hK0] at HD0
  have HK0 := hide hK0
  clear hK0
  obtain ⟨CE, hCE⟩ : ∃ CE, colsErr ocols = CE := ⟨_, rfl⟩
  rw [hCE] at HD0
  have HCE := hide hCE
  obtain ⟨C1, hC1⟩ : ∃ CE, colsErr cols = CE := ⟨_, rfl⟩
  rw [hC1] at HD0
  have HC1 := hide hC1
  obtain ⟨sg, hsg⟩ : ∃ s, (x.kind == 2 || x.kind == 6) = s := ⟨_, rfl⟩
  rw [hsg] at HD0
  clear hCE hC1
  obtain rfl : sg = true := by rw [← hsg, h2]; rfl
  obtain ⟨d1, d2, d3, d4⟩ := hp.dec
  have e4 : (x.kind == 4) = false := by simpa using h4
  have e5 : (x.kind == 5) = false := by simpa using h5
  clear hsg h4 h5 hp
  simp only [chkCells]
  go_enter Tryz.func34, Tryz.ntmps34
  have HN := hide hn
  clear hn
  have HN2 := hide hn'
  clear hn'
  have HC := hide hc
  clear hc
  have HO := hide ho
  clear ho
  go_wp2_with fail
  obtain ⟨W1, hW1⟩ : ∃ W, W = w.alloc (.cells #[.string x.name, .string x.table, .int .i64 x.kind, .slice A n c, .string x.other, .slice A' n' c', .int .i64 x.low, .int .i64 x.high, .slice A'' n'' c'', .int .i64 x.ln, .int .i64 x.ld, .int .i64 x.mn, .int .i64 x.md, .int .i64 x.policy] 27) := ⟨_, rfl⟩
  obtain ⟨hbW1, SZW1, g0, g1, g2, g3, g4, g5, g6, g7, g8, g9, g10, g11, g12, g13⟩ := boxed14 hW1 rfl
  rw [← hW1]
  clear hW1
  have HN := hide (HN.out.below hbW1)
  have HN2 := hide (HN2.out.below hbW1)
  have HC := hide (HC.out.below hbW1)
  have HO := hide (HO.out.below hbW1)
  have LST7 := hide hbW1
  have SG7 := hide hbW1
  clear hbW1
  have LR := lt_of_cell g0
  go_wp2_with fail
  refine (cols_ref _ A1 n1 c1 cols HC.out).mono ?_
  rintro e w6 ⟨rfl, rfl⟩
  rw [HC1.out]
  by_cases hc1 : C1 = 0
  rotate_left
  · have q0 : (C1 != 0) = true := by simpa using hc1
    obtain rfl : R = C1 := by rw [HD0.out, if_pos hc1]
    go_wp2
    all_goals (try (exfalso; go_light; simp_all; done))
    go_ret
    exact ⟨rfl, SG7.out⟩
  subst hc1
  have HD := hide (show R = colsR true U ie is K0 CE oe os ((List.zip is os).any (kdP cols ocols)) from by rw [HD0.out]; simp)
  go_wp2_with fail
  refine (HI1.out _ (by exact HC.out) (by exact HN.out)).mono ?_
  rintro e w1 ⟨⟨v, rfl, hov⟩, hb1⟩
  obtain ⟨A4, c4, rfl⟩ := hov.form
  obtain ⟨m, hm⟩ : ∃ m, is.length = m := ⟨_, rfl⟩
  have hk9 := ol_in hov rfl
  rw [hm] at hk9 ⊢
  have HM := hide hm
  clear hov hm
  have HN := hide (HN.out.below hb1)
  have HN2 := hide (HN2.out.below hb1)
  have HC := hide (HC.out.below hb1)
  have HO := hide (HO.out.below hb1)
  have g0 := bat hb1 LR g0
  have g1 := bat hb1 LR g1
  have g2 := bat hb1 LR g2
  have g3 := bat hb1 LR g3
  have g4 := bat hb1 LR g4
  have g5 := bat hb1 LR g5
  have g6 := bat hb1 LR g6
  have g7 := bat hb1 LR g7
  have g8 := bat hb1 LR g8
  have g9 := bat hb1 LR g9
  have g10 := bat hb1 LR g10
  have g11 := bat hb1 LR g11
  have g12 := bat hb1 LR g12
  have g13 := bat hb1 LR g13
  have LR := lt_of_cell g0
  have LST8 := hide hb1
  have SG8 := hide (below_trans SG7.out hb1)
  clear hb1
  have HK := hide hk9
  clear hk9
  by_cases h0 : ie = 0
  rotate_left
  · have q0 : (ie != 0) = true := by simpa using h0
    obtain rfl : R = ie := by rw [HD.out, colsR, if_pos h0]
    go_wp2
    all_goals (try (exfalso; go_light; simp_all; done))
    go_ret
    exact ⟨rfl, SG8.out⟩
  subst h0
  by_cases hmz : m = 0
  · subst hmz
    obtain rfl : R = 8 := by rw [HD.out, colsR]; simp [HM.out]
    go_wp2
    all_goals (try (exfalso; go_light; simp_all; done))
    go_ret
    exact ⟨rfl, SG8.out⟩
  have qz : ((m : Int) == 0) = false := by simpa using hmz
  have HMZ := hide hmz
  by_cases hm1 : 1 < m
  · have q1 : decide (1 < (m : Int)) = true := by simp; omega
    obtain rfl : R = 8 := by rw [HD.out, colsR]; simp [HM.out, hm1]
    go_wp2
    all_goals (try (exfalso; go_light; simp_all; done))
    go_ret
    exact ⟨rfl, SG8.out⟩
  have q1 : decide (1 < (m : Int)) = false := by simp; omega
  have HM1 := hide hm1
  obtain ⟨b0, o0, j0, rfl, hBb0, HX0, e0, _⟩ := HK.out.int (k := 0) (by omega)
  rw [Nat.add_zero] at e0
  have hr0 := HR1.out (by first | rfl | trivial) j0 (mem_of_drop HX0.out)
  rw [HCL.out] at hr0
  obtain ⟨i0, rfl⟩ : ∃ i : Nat, j0 = (i : Int) := ⟨j0.toNat, by omega⟩
  obtain ⟨bc, oc, y0, rfl, hBbc, HZ0, _, p0, _, _⟩ := HC.out.col (k := i0) (by omega)
  have i00 : (0 : Int) ≤ (i0 : Int) := by omega
  have i01 : (i0 : Int) < (n1 : Int) := hr0.2
  have z01 : (0 : Int) < (m : Int) := by omega
  obtain ⟨k5, hk5⟩ : ∃ q, y0.kind = q := ⟨_, rfl⟩
  have e5 : K0 = k5 := by
    rw [← HK0.out, getD_dr HX0.out, ← hk5]
    simp only [Int.toNat_natCast]
    rw [getD_dr HZ0.out]
  rw [hk5] at p0
  subst e5
  clear hk5 hr0 HX0 HZ0
  by_cases hk2 : K0 = 2
  rotate_left
  · have q2 : (K0 != 2) = true := by simpa using hk2
    obtain rfl : R = 7 := by rw [HD.out, colsR]; simp [HM.out, HMZ.out, HM1.out, hk2]
    go_wp2
    all_goals (try (exfalso; go_light; simp_all; done))
    go_ret
    exact ⟨rfl, SG8.out⟩
  subst hk2
  have q2 : ((2 : Int) != 2) = false := by decide
  go_wp2_with fail
  refine (usesO_ref _ x A n c A' n' c' A'' n'' c'').mono ?_
  rintro e w9 ⟨rfl, hb9⟩
  have HN := hide (HN.out.below hb9)
  have HN2 := hide (HN2.out.below hb9)
  have HC := hide (HC.out.below hb9)
  have HO := hide (HO.out.below hb9)
  have HK := hide (HK.out.below hb9)
  have g0 := bat hb9 LR g0
  have g1 := bat hb9 LR g1
  have g2 := bat hb9 LR g2
  have g3 := bat hb9 LR g3
  have g4 := bat hb9 LR g4
  have g5 := bat hb9 LR g5
  have g6 := bat hb9 LR g6
  have g7 := bat hb9 LR g7
  have g8 := bat hb9 LR g8
  have g9 := bat hb9 LR g9
  have g10 := bat hb9 LR g10
  have g11 := bat hb9 LR g11
  have g12 := bat hb9 LR g12
  have g13 := bat hb9 LR g13
  have LR := lt_of_cell g0
  have LST10 := hide hb9
  have SG10 := hide (below_trans SG8.out hb9)
  clear hb9
  rw [HU.out]
  cases U
  · obtain rfl : R = 0 := by rw [HD.out, colsR]; simp [HM.out, HMZ.out, HM1.out]
    go_wp2
    all_goals (try (exfalso; go_light; simp_all; done))
    go_ret
    exact ⟨rfl, SG10.out⟩
  go_wp2_with fail
  refine (cols_ref _ A2 n2 c2 ocols HO.out).mono ?_
  rintro e w6 ⟨rfl, rfl⟩
  rw [HCE.out]
  by_cases hce : CE = 0
  · subst hce
    go_wp2_with fail
    refine (HI2.out _ (by exact HO.out) (by exact HN2.out)).mono ?_
    rintro e w7 ⟨⟨v2, rfl, hov2⟩, hb7⟩
    obtain ⟨A5, c5, rfl⟩ := hov2.form
    obtain ⟨m2, hm2⟩ : ∃ m, os.length = m := ⟨_, rfl⟩
    have hk8 := ol_in hov2 rfl
    rw [hm2] at hk8 ⊢
    have HM2 := hide hm2
    clear hov2 hm2
    have HN := hide (HN.out.below hb7)
    have HN2 := hide (HN2.out.below hb7)
    have HC := hide (HC.out.below hb7)
    have HO := hide (HO.out.below hb7)
    have HK := hide (HK.out.below hb7)
    have g0 := bat hb7 LR g0
    have g1 := bat hb7 LR g1
    have g2 := bat hb7 LR g2
    have g3 := bat hb7 LR g3
    have g4 := bat hb7 LR g4
    have g5 := bat hb7 LR g5
    have g6 := bat hb7 LR g6
    have g7 := bat hb7 LR g7
    have g8 := bat hb7 LR g8
    have g9 := bat hb7 LR g9
    have g10 := bat hb7 LR g10
    have g11 := bat hb7 LR g11
    have g12 := bat hb7 LR g12
    have g13 := bat hb7 LR g13
    have LR := lt_of_cell g0
    have LST11 := hide hb7
    have SG11 := hide (below_trans SG10.out hb7)
    clear hb7
    have HK2 := hide hk8
    clear hk8
    by_cases hoe : oe = 0
    · subst hoe
      by_cases hmm : m = m2
      · subst hmm
        have HD2 : Hid (R = if (List.zip is os).any (kdP cols ocols) = true then 7 else 0) := hide (by rw [HD.out, colsR]; simp [HM.out, HMZ.out, HM1.out, HM2.out])
        obtain ⟨W5, rfl⟩ : ∃ W, W = w7 := ⟨_, rfl⟩
        have h63 := HK.out.le
        go_wp2
        go_loopw [20] (fun i wr => ∃ k : Nat, k ≤ m ∧ i = .int .i64 k ∧ (List.zip is os).any (kdP cols ocols) = ((List.zip is os).drop k).any (kdP cols ocols) ∧ Below W5.heap.size W5 wr) (fun i _ => m - (RowKit.intOf i).toNat)
        case atStart => exact ⟨0, Nat.zero_le _, rfl, rfl, Below.refl _ _⟩
        case round =>
          obtain ⟨k, hk, rfl, heq, hb⟩ := hrel
          have HE := hide heq
          clear heq
          have HN := hide (HN.out.below hb)
          have HN2 := hide (HN2.out.below hb)
          have HC := hide (HC.out.below hb)
          have HO := hide (HO.out.below hb)
          have HK := hide (HK.out.below hb)
          have HK2 := hide (HK2.out.below hb)
          have g0 := bat hb LR g0
          have g1 := bat hb LR g1
          have g2 := bat hb LR g2
          have g3 := bat hb LR g3
          have g4 := bat hb LR g4
          have g5 := bat hb LR g5
          have g6 := bat hb LR g6
          have g7 := bat hb LR g7
          have g8 := bat hb LR g8
          have g9 := bat hb LR g9
          have g10 := bat hb LR g10
          have g11 := bat hb LR g11
          have g12 := bat hb LR g12
          have g13 := bat hb LR g13
          have LR := lt_of_cell g0
          have LST12 := hide hb
          have SG12 := hide hb
          clear hb
          clear g0 g1 g2 g3 g4 g5 g6 g7 g8 g9 g10 g11 g12 g13
          by_cases hlt : k < m
          · obtain ⟨b, off, j1, hA4, hBb, HX, e0, _⟩ := HK.out.int hlt
            first | (subst hA4) | (injection hA4 with hA4; injection hA4 with hA5 hA6; subst hA5; subst hA6)
            obtain ⟨b2, off2, j2, rfl, hBb2, HY, f0, _⟩ := HK2.out.int hlt
            have hr1 := HR1.out (by first | rfl | trivial) j1 (mem_of_drop HX.out)
            have hr2 := HR2.out (by first | rfl | trivial) j2 (mem_of_drop HY.out)
            rw [HCL.out] at hr1
            rw [HOL.out] at hr2
            obtain ⟨i1, rfl⟩ : ∃ i : Nat, j1 = (i : Int) := ⟨j1.toNat, by omega⟩
            obtain ⟨i2, rfl⟩ : ∃ i : Nat, j2 = (i : Int) := ⟨j2.toNat, by omega⟩
            obtain ⟨b3, off3, y1, hA1, hBb3, HZ1, _, p1, _, _⟩ := HC.out.col (k := i1) (by omega)
            first | (subst hA1) | (injection hA1 with hA1; injection hA1 with hA7 hA8; subst hA7; subst hA8)
            obtain ⟨b4, off4, y2, rfl, hBb4, HZ2, _, q1, _, _⟩ := HO.out.col (k := i2) (by omega)
            have HZP : Hid ((List.zip is os).drop k = ((i1 : Int), (i2 : Int)) :: (List.zip is os).drop (k + 1)) := hide (by
              rw [List.zip, List.drop_zipWith, HX.out, HY.out, List.zipWith_cons_cons, List.drop_zipWith])
            have HKP : Hid (kdP cols ocols ((i1 : Int), (i2 : Int)) = (y1.kind != y2.kind)) := hide (by
              rw [kdP]
              simp only [Int.toNat_natCast]
              rw [getD_dr HZ1.out, getD_dr HZ2.out])
            have k0 : (0 : Int) ≤ (k : Int) := by omega
            have k1 : (k : Int) < (m : Int) := by omega
            have i10 : (0 : Int) ≤ (i1 : Int) := by omega
            have i11 : (i1 : Int) < (n1 : Int) := hr1.2
            have i20 : (0 : Int) ≤ (i2 : Int) := by omega
            have i21 : (i2 : Int) < (n2 : Int) := hr2.2
            have HBW := hide SG12.out
            have HBB := hide (below_trans SG11.out SG12.out)
            clear hr1 hr2 HZ1 HZ2 HX HY
            obtain ⟨k3, hk3⟩ : ∃ q, y1.kind = q := ⟨_, rfl⟩
            obtain ⟨k4, hk4⟩ : ∃ q, y2.kind = q := ⟨_, rfl⟩
            rw [hk3] at p1 HKP
            rw [hk4] at q1 HKP
            clear hk3 hk4
            go_wp2
            go_quiet (fail)
            by_cases hq : k3 = k4
            · subst hq
              have HN : Hid ((List.zip is os).any (kdP cols ocols) = ((List.zip is os).drop (k + 1)).any (kdP cols ocols)) := hide (by rw [HE.out, HZP.out, List.any_cons, HKP.out]; simp)
              go_wp2
              all_goals (try (exfalso; go_light; simp_all; done))
              go_roundw
              case rel => exact ⟨k + 1, by omega, by go_num, HN.out, below_drewN HBW.out _⟩
              case measure => simp [RowKit.intOf]; omega
            · have hq2 : (k3 != k4) = true := by simpa using hq
              obtain rfl : R = 7 := by rw [HD2.out, HE.out, HZP.out, List.any_cons, HKP.out, hq2]; simp
              go_wp2
              all_goals (try (exfalso; go_light; simp_all; done))
              go_ret
              exact ⟨rfl, below_drewN HBB.out _⟩
          · obtain rfl : R = 0 := by rw [HD2.out, HE.out, List.drop_eq_nil_of_le (by rw [List.length_zip, HM.out, HM2.out]; omega)]; rfl
            have HBB := hide (below_trans SG11.out SG12.out)
            go_wp2
            all_goals (try (exfalso; go_light; simp_all; done))
            go_ret
            exact ⟨rfl, HBB.out⟩
      · have q5 : ((m : Int) != (m2 : Int)) = true := by simp; omega
        obtain rfl : R = 8 := by rw [HD.out, colsR]; simp [HM.out, HMZ.out, HM1.out, HM2.out, hmm]
        go_wp2
        all_goals (try (exfalso; go_light; simp_all; done))
        go_ret
        exact ⟨rfl, SG11.out⟩
    · have q4 : (oe != 0) = true := by simpa using hoe
      obtain rfl : R = oe := by rw [HD.out, colsR]; simp [HM.out, HMZ.out, HM1.out, hoe]
      go_wp2
      all_goals (try (exfalso; go_light; simp_all; done))
      go_ret
      exact ⟨rfl, SG11.out⟩
  · have q3 : (CE != 0) = true := by simpa using hce
    obtain rfl : R = CE := by rw [HD.out, colsR]; simp [HM.out, HMZ.out, HM1.out, hce]
    go_wp2
    all_goals (try (exfalso; go_light; simp_all; done))
    go_ret
    exact ⟨rfl, SG10.out⟩
set_option maxHeartbeats 4000000 in
set_option maxRecDepth 100000 in
theorem validate28_w1 (w : World) (x : Chk) (A : Option Addr) (n c : Nat) (hn : In w A n c x.cols) (A' : Option Addr) (n' c' : Nat) (hn' : In w A' n' c' x.ocols) (A'' : Option Addr) (n'' c'' : Nat) (hq : In w A'' n'' c'' x.cond)
    (A1 : Option Addr) (n1 c1 : Nat) (cols : List Col) (hc : In w A1 n1 c1 cols) (A2 : Option Addr) (n2 c2 : Nat) (ocols : List Col) (ho : In w A2 n2 c2 ocols) (A5 : Option Addr) (n5 c5 : Nat) (zs : List Zone) (hz : In w A5 n5 c5 zs) (hb0 : n ≤ 4096) (hb1 : n' ≤ 4096) (hb2 : n1 ≤ 4096) (hb3 : n2 ≤ 4096) (hp : ChkPass x) (h4 : ¬ x.kind = 4) (h5 : ¬ x.kind = 5) (p0 : (x.policy == 0) = true) (h6 : (x.kind == 6) = false) (h2 : (x.kind == 2) = false) :
    Calls Tryz.prog 34 #[.agg (chkCells x A n c A' n' c' A'' n'' c'').toArray, .slice A1 n1 c1, .slice A2 n2 c2, .slice A5 n5 c5] w fun e w' => e = .returned (.int .i64 (chkErr x cols ocols zs)) ∧ Below w.heap.size w w' := by
  have HD0 := hide (show chkErr x cols ocols zs = if colsErr cols ≠ 0 then colsErr cols else chkCols x cols ocols from by
    rw [chkErr_parts x cols ocols zs hp.1 hp.2]
    have : usesC x.kind = false := by rw [usesC]; simp [h4, h5]
    rw [this]; simp)
  rw [chkCols_eq x cols ocols] at HD0
  have HI1 := hide fun W hx hy => indices_ref W A1 n1 c1 cols hx A n c x.cols hy (by omega) (by omega)
  have HI2 := hide fun W hx hy => indices_ref W A2 n2 c2 ocols hx A' n' c' x.ocols hy (by omega) (by omega)
  have HR1 := hide (fun h => inds_rng (cols := cols) (names := x.cols) h)
  have HR2 := hide (fun h => inds_rng (cols := ocols) (names := x.ocols) h)
  have HLN1 := hide (Nat.le_trans (inds_len cols x.cols) (by rw [hn.len]; exact hb0))
  have HLN2 := hide (Nat.le_trans (inds_len ocols x.ocols) (by rw [hn'.len]; exact hb1))
  have HCL := hide hc.len
  have HOL := hide ho.len
  obtain ⟨R, hR⟩ : ∃ R, chkErr x cols ocols zs = R := ⟨_, rfl⟩
  obtain ⟨I1, hI1⟩ : ∃ I, indsS cols x.cols = I := ⟨_, rfl⟩
  obtain ⟨I2, hI2⟩ : ∃ I, indsS ocols x.ocols = I := ⟨_, rfl⟩
  obtain ⟨U, hU⟩ : ∃ U, usesO x.kind = U := ⟨_, rfl⟩
  rw [hR, hI1, hI2, hU] at HD0
  rw [hI1] at HI1 HR1 HLN1
  rw [hI2] at HI2 HR2 HLN2
  rw [hR]
  have HU := hide hU
  clear hR hI1 hI2 hU
  obtain ⟨ie, is⟩ := I1
  obtain ⟨oe, os⟩ := I2
  simp only at HD0 HI1 HI2 HR1 HR2 HLN1 HLN2
  obtain ⟨K0, hK0⟩ : ∃ K, (cols.getD (is.getD 0 0).toNat default).kind = K := ⟨_, rfl⟩
  rw [hK0] at HD0
  have HK0 := hide hK0
  clear hK0
  obtain ⟨CE, hCE⟩ : ∃ CE, colsErr ocols = CE := ⟨_, rfl⟩
  rw [hCE] at HD0
  have HCE := hide hCE
  obtain ⟨C1, hC1⟩ : ∃ CE, colsErr cols = CE := ⟨_, rfl⟩
  rw [hC1] at HD0
  have HC1 := hide hC1
  obtain ⟨sg, hsg⟩ : ∃ s, (x.kind == 2 || x.kind == 6) = s := ⟨_, rfl⟩
  rw [hsg] at HD0
  clear hCE hC1
  obtain rfl : sg = false := by rw [← hsg, h2, h6]; rfl
  obtain ⟨d1, d2, d3, d4⟩ := hp.dec
  have e4 : (x.kind == 4) = false := by simpa using h4
  have e5 : (x.kind == 5) = false := by simpa using h5
  clear hsg h4 h5 hp
  simp only [chkCells]
  go_enter Tryz.func34, Tryz.ntmps34
  have HN := hide hn
  clear hn
  have HN2 := hide hn'
  clear hn'
  have HC := hide hc
  clear hc
  have HO := hide ho
  clear ho
  go_wp2_with fail
  obtain ⟨W1, hW1⟩ : ∃ W, W = w.alloc (.cells #[.string x.name, .string x.table, .int .i64 x.kind, .slice A n c, .string x.other, .slice A' n' c', .int .i64 x.low, .int .i64 x.high, .slice A'' n'' c'', .int .i64 x.ln, .int .i64 x.ld, .int .i64 x.mn, .int .i64 x.md, .int .i64 x.policy] 27) := ⟨_, rfl⟩
  obtain ⟨hbW1, SZW1, g0, g1, g2, g3, g4, g5, g6, g7, g8, g9, g10, g11, g12, g13⟩ := boxed14 hW1 rfl
  rw [← hW1]
  clear hW1
  have HN := hide (HN.out.below hbW1)
  have HN2 := hide (HN2.out.below hbW1)
  have HC := hide (HC.out.below hbW1)
  have HO := hide (HO.out.below hbW1)
  have LST13 := hide hbW1
  have SG13 := hide hbW1
  clear hbW1
  have LR := lt_of_cell g0
  go_wp2_with fail
  refine (cols_ref _ A1 n1 c1 cols HC.out).mono ?_
  rintro e w6 ⟨rfl, rfl⟩
  rw [HC1.out]
  by_cases hc1 : C1 = 0
  rotate_left
  · have q0 : (C1 != 0) = true := by simpa using hc1
    obtain rfl : R = C1 := by rw [HD0.out, if_pos hc1]
    go_wp2
    all_goals (try (exfalso; go_light; simp_all; done))
    go_ret
    exact ⟨rfl, SG13.out⟩
  subst hc1
  have HD := hide (show R = colsR false U ie is K0 CE oe os ((List.zip is os).any (kdP cols ocols)) from by rw [HD0.out]; simp)
  go_wp2_with fail
  refine (HI1.out _ (by exact HC.out) (by exact HN.out)).mono ?_
  rintro e w1 ⟨⟨v, rfl, hov⟩, hb1⟩
  obtain ⟨A4, c4, rfl⟩ := hov.form
  obtain ⟨m, hm⟩ : ∃ m, is.length = m := ⟨_, rfl⟩
  have hk9 := ol_in hov rfl
  rw [hm] at hk9 ⊢
  have HM := hide hm
  clear hov hm
  have HN := hide (HN.out.below hb1)
  have HN2 := hide (HN2.out.below hb1)
  have HC := hide (HC.out.below hb1)
  have HO := hide (HO.out.below hb1)
  have g0 := bat hb1 LR g0
  have g1 := bat hb1 LR g1
  have g2 := bat hb1 LR g2
  have g3 := bat hb1 LR g3
  have g4 := bat hb1 LR g4
  have g5 := bat hb1 LR g5
  have g6 := bat hb1 LR g6
  have g7 := bat hb1 LR g7
  have g8 := bat hb1 LR g8
  have g9 := bat hb1 LR g9
  have g10 := bat hb1 LR g10
  have g11 := bat hb1 LR g11
  have g12 := bat hb1 LR g12
  have g13 := bat hb1 LR g13
  have LR := lt_of_cell g0
  have LST14 := hide hb1
  have SG14 := hide (below_trans SG13.out hb1)
  clear hb1
  have HK := hide hk9
  clear hk9
  by_cases h0 : ie = 0
  rotate_left
  · have q0 : (ie != 0) = true := by simpa using h0
    obtain rfl : R = ie := by rw [HD.out, colsR, if_pos h0]
    go_wp2
    all_goals (try (exfalso; go_light; simp_all; done))
    go_ret
    exact ⟨rfl, SG14.out⟩
  subst h0
  by_cases hmz : m = 0
  · subst hmz
    obtain rfl : R = 8 := by rw [HD.out, colsR]; simp [HM.out]
    go_wp2
    all_goals (try (exfalso; go_light; simp_all; done))
    go_ret
    exact ⟨rfl, SG14.out⟩
  have qz : ((m : Int) == 0) = false := by simpa using hmz
  have HMZ := hide hmz
  go_wp2_with fail
  refine (usesO_ref _ x A n c A' n' c' A'' n'' c'').mono ?_
  rintro e w15 ⟨rfl, hb15⟩
  have HN := hide (HN.out.below hb15)
  have HN2 := hide (HN2.out.below hb15)
  have HC := hide (HC.out.below hb15)
  have HO := hide (HO.out.below hb15)
  have HK := hide (HK.out.below hb15)
  have g0 := bat hb15 LR g0
  have g1 := bat hb15 LR g1
  have g2 := bat hb15 LR g2
  have g3 := bat hb15 LR g3
  have g4 := bat hb15 LR g4
  have g5 := bat hb15 LR g5
  have g6 := bat hb15 LR g6
  have g7 := bat hb15 LR g7
  have g8 := bat hb15 LR g8
  have g9 := bat hb15 LR g9
  have g10 := bat hb15 LR g10
  have g11 := bat hb15 LR g11
  have g12 := bat hb15 LR g12
  have g13 := bat hb15 LR g13
  have LR := lt_of_cell g0
  have LST16 := hide hb15
  have SG16 := hide (below_trans SG14.out hb15)
  clear hb15
  rw [HU.out]
  cases U
  · obtain rfl : R = 0 := by rw [HD.out, colsR]; simp [HM.out, HMZ.out]
    go_wp2
    all_goals (try (exfalso; go_light; simp_all; done))
    go_ret
    exact ⟨rfl, SG16.out⟩
  go_wp2_with fail
  refine (cols_ref _ A2 n2 c2 ocols HO.out).mono ?_
  rintro e w6 ⟨rfl, rfl⟩
  rw [HCE.out]
  by_cases hce : CE = 0
  · subst hce
    go_wp2_with fail
    refine (HI2.out _ (by exact HO.out) (by exact HN2.out)).mono ?_
    rintro e w7 ⟨⟨v2, rfl, hov2⟩, hb7⟩
    obtain ⟨A5, c5, rfl⟩ := hov2.form
    obtain ⟨m2, hm2⟩ : ∃ m, os.length = m := ⟨_, rfl⟩
    have hk8 := ol_in hov2 rfl
    rw [hm2] at hk8 ⊢
    have HM2 := hide hm2
    clear hov2 hm2
    have HN := hide (HN.out.below hb7)
    have HN2 := hide (HN2.out.below hb7)
    have HC := hide (HC.out.below hb7)
    have HO := hide (HO.out.below hb7)
    have HK := hide (HK.out.below hb7)
    have g0 := bat hb7 LR g0
    have g1 := bat hb7 LR g1
    have g2 := bat hb7 LR g2
    have g3 := bat hb7 LR g3
    have g4 := bat hb7 LR g4
    have g5 := bat hb7 LR g5
    have g6 := bat hb7 LR g6
    have g7 := bat hb7 LR g7
    have g8 := bat hb7 LR g8
    have g9 := bat hb7 LR g9
    have g10 := bat hb7 LR g10
    have g11 := bat hb7 LR g11
    have g12 := bat hb7 LR g12
    have g13 := bat hb7 LR g13
    have LR := lt_of_cell g0
    have LST17 := hide hb7
    have SG17 := hide (below_trans SG16.out hb7)
    clear hb7
    have HK2 := hide hk8
    clear hk8
    by_cases hoe : oe = 0
    · subst hoe
      by_cases hmm : m = m2
      · subst hmm
        have HD2 : Hid (R = if (List.zip is os).any (kdP cols ocols) = true then 7 else 0) := hide (by rw [HD.out, colsR]; simp [HM.out, HMZ.out, HM2.out])
        obtain ⟨W5, rfl⟩ : ∃ W, W = w7 := ⟨_, rfl⟩
        have h63 := HK.out.le
        go_wp2
        go_loopw [20] (fun i wr => ∃ k : Nat, k ≤ m ∧ i = .int .i64 k ∧ (List.zip is os).any (kdP cols ocols) = ((List.zip is os).drop k).any (kdP cols ocols) ∧ Below W5.heap.size W5 wr) (fun i _ => m - (RowKit.intOf i).toNat)
        case atStart => exact ⟨0, Nat.zero_le _, rfl, rfl, Below.refl _ _⟩
        case round =>
          obtain ⟨k, hk, rfl, heq, hb⟩ := hrel
          have HE := hide heq
          clear heq
          have HN := hide (HN.out.below hb)
          have HN2 := hide (HN2.out.below hb)
          have HC := hide (HC.out.below hb)
          have HO := hide (HO.out.below hb)
          have HK := hide (HK.out.below hb)
          have HK2 := hide (HK2.out.below hb)
          have g0 := bat hb LR g0
          have g1 := bat hb LR g1
          have g2 := bat hb LR g2
          have g3 := bat hb LR g3
          have g4 := bat hb LR g4
          have g5 := bat hb LR g5
          have g6 := bat hb LR g6
          have g7 := bat hb LR g7
          have g8 := bat hb LR g8
          have g9 := bat hb LR g9
          have g10 := bat hb LR g10
          have g11 := bat hb LR g11
          have g12 := bat hb LR g12
          have g13 := bat hb LR g13
          have LR := lt_of_cell g0
          have LST18 := hide hb
          have SG18 := hide hb
          clear hb
          clear g0 g1 g2 g3 g4 g5 g6 g7 g8 g9 g10 g11 g12 g13
          by_cases hlt : k < m
          · obtain ⟨b, off, j1, hA4, hBb, HX, e0, _⟩ := HK.out.int hlt
            first | (subst hA4) | (injection hA4 with hA4; injection hA4 with hA5 hA6; subst hA5; subst hA6)
            obtain ⟨b2, off2, j2, rfl, hBb2, HY, f0, _⟩ := HK2.out.int hlt
            have hr1 := HR1.out (by first | rfl | trivial) j1 (mem_of_drop HX.out)
            have hr2 := HR2.out (by first | rfl | trivial) j2 (mem_of_drop HY.out)
            rw [HCL.out] at hr1
            rw [HOL.out] at hr2
            obtain ⟨i1, rfl⟩ : ∃ i : Nat, j1 = (i : Int) := ⟨j1.toNat, by omega⟩
            obtain ⟨i2, rfl⟩ : ∃ i : Nat, j2 = (i : Int) := ⟨j2.toNat, by omega⟩
            obtain ⟨b3, off3, y1, hA1, hBb3, HZ1, _, p1, _, _⟩ := HC.out.col (k := i1) (by omega)
            first | (subst hA1) | (injection hA1 with hA1; injection hA1 with hA7 hA8; subst hA7; subst hA8)
            obtain ⟨b4, off4, y2, rfl, hBb4, HZ2, _, q1, _, _⟩ := HO.out.col (k := i2) (by omega)
            have HZP : Hid ((List.zip is os).drop k = ((i1 : Int), (i2 : Int)) :: (List.zip is os).drop (k + 1)) := hide (by
              rw [List.zip, List.drop_zipWith, HX.out, HY.out, List.zipWith_cons_cons, List.drop_zipWith])
            have HKP : Hid (kdP cols ocols ((i1 : Int), (i2 : Int)) = (y1.kind != y2.kind)) := hide (by
              rw [kdP]
              simp only [Int.toNat_natCast]
              rw [getD_dr HZ1.out, getD_dr HZ2.out])
            have k0 : (0 : Int) ≤ (k : Int) := by omega
            have k1 : (k : Int) < (m : Int) := by omega
            have i10 : (0 : Int) ≤ (i1 : Int) := by omega
            have i11 : (i1 : Int) < (n1 : Int) := hr1.2
            have i20 : (0 : Int) ≤ (i2 : Int) := by omega
            have i21 : (i2 : Int) < (n2 : Int) := hr2.2
            have HBW := hide SG18.out
            have HBB := hide (below_trans SG17.out SG18.out)
            clear hr1 hr2 HZ1 HZ2 HX HY
            obtain ⟨k3, hk3⟩ : ∃ q, y1.kind = q := ⟨_, rfl⟩
            obtain ⟨k4, hk4⟩ : ∃ q, y2.kind = q := ⟨_, rfl⟩
            rw [hk3] at p1 HKP
            rw [hk4] at q1 HKP
            clear hk3 hk4
            go_wp2
            go_quiet (fail)
            by_cases hq : k3 = k4
            · subst hq
              have HN : Hid ((List.zip is os).any (kdP cols ocols) = ((List.zip is os).drop (k + 1)).any (kdP cols ocols)) := hide (by rw [HE.out, HZP.out, List.any_cons, HKP.out]; simp)
              go_wp2
              all_goals (try (exfalso; go_light; simp_all; done))
              go_roundw
              case rel => exact ⟨k + 1, by omega, by go_num, HN.out, below_drewN HBW.out _⟩
              case measure => simp [RowKit.intOf]; omega
            · have hq2 : (k3 != k4) = true := by simpa using hq
              obtain rfl : R = 7 := by rw [HD2.out, HE.out, HZP.out, List.any_cons, HKP.out, hq2]; simp
              go_wp2
              all_goals (try (exfalso; go_light; simp_all; done))
              go_ret
              exact ⟨rfl, below_drewN HBB.out _⟩
          · obtain rfl : R = 0 := by rw [HD2.out, HE.out, List.drop_eq_nil_of_le (by rw [List.length_zip, HM.out, HM2.out]; omega)]; rfl
            have HBB := hide (below_trans SG17.out SG18.out)
            go_wp2
            all_goals (try (exfalso; go_light; simp_all; done))
            go_ret
            exact ⟨rfl, HBB.out⟩
      · have q5 : ((m : Int) != (m2 : Int)) = true := by simp; omega
        obtain rfl : R = 8 := by rw [HD.out, colsR]; simp [HM.out, HMZ.out, HM2.out, hmm]
        go_wp2
        all_goals (try (exfalso; go_light; simp_all; done))
        go_ret
        exact ⟨rfl, SG17.out⟩
    · have q4 : (oe != 0) = true := by simpa using hoe
      obtain rfl : R = oe := by rw [HD.out, colsR]; simp [HM.out, HMZ.out, hoe]
      go_wp2
      all_goals (try (exfalso; go_light; simp_all; done))
      go_ret
      exact ⟨rfl, SG17.out⟩
  · have q3 : (CE != 0) = true := by simpa using hce
    obtain rfl : R = CE := by rw [HD.out, colsR]; simp [HM.out, HMZ.out, hce]
    go_wp2
    all_goals (try (exfalso; go_light; simp_all; done))
    go_ret
    exact ⟨rfl, SG16.out⟩
set_option maxHeartbeats 4000000 in
set_option maxRecDepth 100000 in
theorem validate28_w2 (w : World) (x : Chk) (A : Option Addr) (n c : Nat) (hn : In w A n c x.cols) (A' : Option Addr) (n' c' : Nat) (hn' : In w A' n' c' x.ocols) (A'' : Option Addr) (n'' c'' : Nat) (hq : In w A'' n'' c'' x.cond)
    (A1 : Option Addr) (n1 c1 : Nat) (cols : List Col) (hc : In w A1 n1 c1 cols) (A2 : Option Addr) (n2 c2 : Nat) (ocols : List Col) (ho : In w A2 n2 c2 ocols) (A5 : Option Addr) (n5 c5 : Nat) (zs : List Zone) (hz : In w A5 n5 c5 zs) (hb0 : n ≤ 4096) (hb1 : n' ≤ 4096) (hb2 : n1 ≤ 4096) (hb3 : n2 ≤ 4096) (hp : ChkPass x) (h4 : ¬ x.kind = 4) (h5 : ¬ x.kind = 5) (p0 : (x.policy == 0) = false) (h2 : (x.kind == 2) = true) :
    Calls Tryz.prog 34 #[.agg (chkCells x A n c A' n' c' A'' n'' c'').toArray, .slice A1 n1 c1, .slice A2 n2 c2, .slice A5 n5 c5] w fun e w' => e = .returned (.int .i64 (chkErr x cols ocols zs)) ∧ Below w.heap.size w w' := by
  have HD0 := hide (show chkErr x cols ocols zs = if colsErr cols ≠ 0 then colsErr cols else chkCols x cols ocols from by
    rw [chkErr_parts x cols ocols zs hp.1 hp.2]
    have : usesC x.kind = false := by rw [usesC]; simp [h4, h5]
    rw [this]; simp)
  rw [chkCols_eq x cols ocols] at HD0
  have HI1 := hide fun W hx hy => indices_ref W A1 n1 c1 cols hx A n c x.cols hy (by omega) (by omega)
  have HI2 := hide fun W hx hy => indices_ref W A2 n2 c2 ocols hx A' n' c' x.ocols hy (by omega) (by omega)
  have HR1 := hide (fun h => inds_rng (cols := cols) (names := x.cols) h)
  have HR2 := hide (fun h => inds_rng (cols := ocols) (names := x.ocols) h)
  have HLN1 := hide (Nat.le_trans (inds_len cols x.cols) (by rw [hn.len]; exact hb0))
  have HLN2 := hide (Nat.le_trans (inds_len ocols x.ocols) (by rw [hn'.len]; exact hb1))
  have HCL := hide hc.len
  have HOL := hide ho.len
  obtain ⟨R, hR⟩ : ∃ R, chkErr x cols ocols zs = R := ⟨_, rfl⟩
  obtain ⟨I1, hI1⟩ : ∃ I, indsS cols x.cols = I := ⟨_, rfl⟩
  obtain ⟨I2, hI2⟩ : ∃ I, indsS ocols x.ocols = I := ⟨_, rfl⟩
  obtain ⟨U, hU⟩ : ∃ U, usesO x.kind = U := ⟨_, rfl⟩
  rw [hR, hI1, hI2, hU] at HD0
  rw [hI1] at HI1 HR1 HLN1
  rw [hI2] at HI2 HR2 HLN2
  rw [hR]
  have HU := hide hU
  clear hR hI1 hI2 hU
  obtain ⟨ie, is⟩ := I1
  obtain ⟨oe, os⟩ := I2
  simp only at HD0 HI1 HI2 HR1 HR2 HLN1 HLN2
  obtain ⟨K0, hK0⟩ : ∃ K, (cols.getD (is.getD 0 0).toNat default).kind = K := ⟨_, rfl⟩
  rw [hK0] at HD0
  have HK0 := hide hK0
  clear hK0
  obtain ⟨CE, hCE⟩ : ∃ CE, colsErr ocols = CE := ⟨_, rfl⟩
  rw [hCE] at HD0
  have HCE := hide hCE
  obtain ⟨C1, hC1⟩ : ∃ CE, colsErr cols = CE := ⟨_, rfl⟩
  rw [hC1] at HD0
  have HC1 := hide hC1
  obtain ⟨sg, hsg⟩ : ∃ s, (x.kind == 2 || x.kind == 6) = s := ⟨_, rfl⟩
  rw [hsg] at HD0
  clear hCE hC1
  obtain rfl : sg = true := by rw [← hsg, h2]; rfl
  obtain ⟨d1, d2, d3, d4⟩ := hp.dec
  have e4 : (x.kind == 4) = false := by simpa using h4
  have e5 : (x.kind == 5) = false := by simpa using h5
  clear hsg h4 h5 hp
  simp only [chkCells]
  go_enter Tryz.func34, Tryz.ntmps34
  have HN := hide hn
  clear hn
  have HN2 := hide hn'
  clear hn'
  have HC := hide hc
  clear hc
  have HO := hide ho
  clear ho
  go_wp2_with fail
  obtain ⟨W1, hW1⟩ : ∃ W, W = w.alloc (.cells #[.string x.name, .string x.table, .int .i64 x.kind, .slice A n c, .string x.other, .slice A' n' c', .int .i64 x.low, .int .i64 x.high, .slice A'' n'' c'', .int .i64 x.ln, .int .i64 x.ld, .int .i64 x.mn, .int .i64 x.md, .int .i64 x.policy] 27) := ⟨_, rfl⟩
  obtain ⟨hbW1, SZW1, g0, g1, g2, g3, g4, g5, g6, g7, g8, g9, g10, g11, g12, g13⟩ := boxed14 hW1 rfl
  rw [← hW1]
  clear hW1
  have HN := hide (HN.out.below hbW1)
  have HN2 := hide (HN2.out.below hbW1)
  have HC := hide (HC.out.below hbW1)
  have HO := hide (HO.out.below hbW1)
  have LST19 := hide hbW1
  have SG19 := hide hbW1
  clear hbW1
  have LR := lt_of_cell g0
  go_wp2_with fail
  refine (cols_ref _ A1 n1 c1 cols HC.out).mono ?_
  rintro e w6 ⟨rfl, rfl⟩
  rw [HC1.out]
  by_cases hc1 : C1 = 0
  rotate_left
  · have q0 : (C1 != 0) = true := by simpa using hc1
    obtain rfl : R = C1 := by rw [HD0.out, if_pos hc1]
    go_wp2
    all_goals (try (exfalso; go_light; simp_all; done))
    go_ret
    exact ⟨rfl, SG19.out⟩
  subst hc1
  have HD := hide (show R = colsR true U ie is K0 CE oe os ((List.zip is os).any (kdP cols ocols)) from by rw [HD0.out]; simp)
  go_wp2_with fail
  refine (HI1.out _ (by exact HC.out) (by exact HN.out)).mono ?_
  rintro e w1 ⟨⟨v, rfl, hov⟩, hb1⟩
  obtain ⟨A4, c4, rfl⟩ := hov.form
  obtain ⟨m, hm⟩ : ∃ m, is.length = m := ⟨_, rfl⟩
  have hk9 := ol_in hov rfl
  rw [hm] at hk9 ⊢
  have HM := hide hm
  clear hov hm
  have HN := hide (HN.out.below hb1)
  have HN2 := hide (HN2.out.below hb1)
  have HC := hide (HC.out.below hb1)
  have HO := hide (HO.out.below hb1)
  have g0 := bat hb1 LR g0
  have g1 := bat hb1 LR g1
  have g2 := bat hb1 LR g2
  have g3 := bat hb1 LR g3
  have g4 := bat hb1 LR g4
  have g5 := bat hb1 LR g5
  have g6 := bat hb1 LR g6
  have g7 := bat hb1 LR g7
  have g8 := bat hb1 LR g8
  have g9 := bat hb1 LR g9
  have g10 := bat hb1 LR g10
  have g11 := bat hb1 LR g11
  have g12 := bat hb1 LR g12
  have g13 := bat hb1 LR g13
  have LR := lt_of_cell g0
  have LST20 := hide hb1
  have SG20 := hide (below_trans SG19.out hb1)
  clear hb1
  have HK := hide hk9
  clear hk9
  by_cases h0 : ie = 0
  rotate_left
  · have q0 : (ie != 0) = true := by simpa using h0
    obtain rfl : R = ie := by rw [HD.out, colsR, if_pos h0]
    go_wp2
    all_goals (try (exfalso; go_light; simp_all; done))
    go_ret
    exact ⟨rfl, SG20.out⟩
  subst h0
  by_cases hmz : m = 0
  · subst hmz
    obtain rfl : R = 8 := by rw [HD.out, colsR]; simp [HM.out]
    go_wp2
    all_goals (try (exfalso; go_light; simp_all; done))
    go_ret
    exact ⟨rfl, SG20.out⟩
  have qz : ((m : Int) == 0) = false := by simpa using hmz
  have HMZ := hide hmz
  by_cases hm1 : 1 < m
  · have q1 : decide (1 < (m : Int)) = true := by simp; omega
    obtain rfl : R = 8 := by rw [HD.out, colsR]; simp [HM.out, hm1]
    go_wp2
    all_goals (try (exfalso; go_light; simp_all; done))
    go_ret
    exact ⟨rfl, SG20.out⟩
  have q1 : decide (1 < (m : Int)) = false := by simp; omega
  have HM1 := hide hm1
  obtain ⟨b0, o0, j0, rfl, hBb0, HX0, e0, _⟩ := HK.out.int (k := 0) (by omega)
  rw [Nat.add_zero] at e0
  have hr0 := HR1.out (by first | rfl | trivial) j0 (mem_of_drop HX0.out)
  rw [HCL.out] at hr0
  obtain ⟨i0, rfl⟩ : ∃ i : Nat, j0 = (i : Int) := ⟨j0.toNat, by omega⟩
  obtain ⟨bc, oc, y0, rfl, hBbc, HZ0, _, p0, _, _⟩ := HC.out.col (k := i0) (by omega)
  have i00 : (0 : Int) ≤ (i0 : Int) := by omega
  have i01 : (i0 : Int) < (n1 : Int) := hr0.2
  have z01 : (0 : Int) < (m : Int) := by omega
  obtain ⟨k5, hk5⟩ : ∃ q, y0.kind = q := ⟨_, rfl⟩
  have e5 : K0 = k5 := by
    rw [← HK0.out, getD_dr HX0.out, ← hk5]
    simp only [Int.toNat_natCast]
    rw [getD_dr HZ0.out]
  rw [hk5] at p0
  subst e5
  clear hk5 hr0 HX0 HZ0
  by_cases hk2 : K0 = 2
  rotate_left
  · have q2 : (K0 != 2) = true := by simpa using hk2
    obtain rfl : R = 7 := by rw [HD.out, colsR]; simp [HM.out, HMZ.out, HM1.out, hk2]
    go_wp2
    all_goals (try (exfalso; go_light; simp_all; done))
    go_ret
    exact ⟨rfl, SG20.out⟩
  subst hk2
  have q2 : ((2 : Int) != 2) = false := by decide
  go_wp2_with fail
  refine (usesO_ref _ x A n c A' n' c' A'' n'' c'').mono ?_
  rintro e w21 ⟨rfl, hb21⟩
  have HN := hide (HN.out.below hb21)
  have HN2 := hide (HN2.out.below hb21)
  have HC := hide (HC.out.below hb21)
  have HO := hide (HO.out.below hb21)
  have HK := hide (HK.out.below hb21)
  have g0 := bat hb21 LR g0
  have g1 := bat hb21 LR g1
  have g2 := bat hb21 LR g2
  have g3 := bat hb21 LR g3
  have g4 := bat hb21 LR g4
  have g5 := bat hb21 LR g5
  have g6 := bat hb21 LR g6
  have g7 := bat hb21 LR g7
  have g8 := bat hb21 LR g8
  have g9 := bat hb21 LR g9
  have g10 := bat hb21 LR g10
  have g11 := bat hb21 LR g11
  have g12 := bat hb21 LR g12
  have g13 := bat hb21 LR g13
  have LR := lt_of_cell g0
  have LST22 := hide hb21
  have SG22 := hide (below_trans SG20.out hb21)
  clear hb21
  rw [HU.out]
  cases U
  · obtain rfl : R = 0 := by rw [HD.out, colsR]; simp [HM.out, HMZ.out, HM1.out]
    go_wp2
    all_goals (try (exfalso; go_light; simp_all; done))
    go_ret
    exact ⟨rfl, SG22.out⟩
  go_wp2_with fail
  refine (cols_ref _ A2 n2 c2 ocols HO.out).mono ?_
  rintro e w6 ⟨rfl, rfl⟩
  rw [HCE.out]
  by_cases hce : CE = 0
  · subst hce
    go_wp2_with fail
    refine (HI2.out _ (by exact HO.out) (by exact HN2.out)).mono ?_
    rintro e w7 ⟨⟨v2, rfl, hov2⟩, hb7⟩
    obtain ⟨A5, c5, rfl⟩ := hov2.form
    obtain ⟨m2, hm2⟩ : ∃ m, os.length = m := ⟨_, rfl⟩
    have hk8 := ol_in hov2 rfl
    rw [hm2] at hk8 ⊢
    have HM2 := hide hm2
    clear hov2 hm2
    have HN := hide (HN.out.below hb7)
    have HN2 := hide (HN2.out.below hb7)
    have HC := hide (HC.out.below hb7)
    have HO := hide (HO.out.below hb7)
    have HK := hide (HK.out.below hb7)
    have g0 := bat hb7 LR g0
    have g1 := bat hb7 LR g1
    have g2 := bat hb7 LR g2
    have g3 := bat hb7 LR g3
    have g4 := bat hb7 LR g4
    have g5 := bat hb7 LR g5
    have g6 := bat hb7 LR g6
    have g7 := bat hb7 LR g7
    have g8 := bat hb7 LR g8
    have g9 := bat hb7 LR g9
    have g10 := bat hb7 LR g10
    have g11 := bat hb7 LR g11
    have g12 := bat hb7 LR g12
    have g13 := bat hb7 LR g13
    have LR := lt_of_cell g0
    have LST23 := hide hb7
    have SG23 := hide (below_trans SG22.out hb7)
    clear hb7
    have HK2 := hide hk8
    clear hk8
    by_cases hoe : oe = 0
    · subst hoe
      by_cases hmm : m = m2
      · subst hmm
        have HD2 : Hid (R = if (List.zip is os).any (kdP cols ocols) = true then 7 else 0) := hide (by rw [HD.out, colsR]; simp [HM.out, HMZ.out, HM1.out, HM2.out])
        obtain ⟨W5, rfl⟩ : ∃ W, W = w7 := ⟨_, rfl⟩
        have h63 := HK.out.le
        go_wp2
        go_loopw [20] (fun i wr => ∃ k : Nat, k ≤ m ∧ i = .int .i64 k ∧ (List.zip is os).any (kdP cols ocols) = ((List.zip is os).drop k).any (kdP cols ocols) ∧ Below W5.heap.size W5 wr) (fun i _ => m - (RowKit.intOf i).toNat)
        case atStart => exact ⟨0, Nat.zero_le _, rfl, rfl, Below.refl _ _⟩
        case round =>
          obtain ⟨k, hk, rfl, heq, hb⟩ := hrel
          have HE := hide heq
          clear heq
          have HN := hide (HN.out.below hb)
          have HN2 := hide (HN2.out.below hb)
          have HC := hide (HC.out.below hb)
          have HO := hide (HO.out.below hb)
          have HK := hide (HK.out.below hb)
          have HK2 := hide (HK2.out.below hb)
          have g0 := bat hb LR g0
          have g1 := bat hb LR g1
          have g2 := bat hb LR g2
          have g3 := bat hb LR g3
          have g4 := bat hb LR g4
          have g5 := bat hb LR g5
          have g6 := bat hb LR g6
          have g7 := bat hb LR g7
          have g8 := bat hb LR g8
          have g9 := bat hb LR g9
          have g10 := bat hb LR g10
          have g11 := bat hb LR g11
          have g12 := bat hb LR g12
          have g13 := bat hb LR g13
          have LR := lt_of_cell g0
          have LST24 := hide hb
          have SG24 := hide hb
          clear hb
          clear g0 g1 g2 g3 g4 g5 g6 g7 g8 g9 g10 g11 g12 g13
          by_cases hlt : k < m
          · obtain ⟨b, off, j1, hA4, hBb, HX, e0, _⟩ := HK.out.int hlt
            first | (subst hA4) | (injection hA4 with hA4; injection hA4 with hA5 hA6; subst hA5; subst hA6)
            obtain ⟨b2, off2, j2, rfl, hBb2, HY, f0, _⟩ := HK2.out.int hlt
            have hr1 := HR1.out (by first | rfl | trivial) j1 (mem_of_drop HX.out)
            have hr2 := HR2.out (by first | rfl | trivial) j2 (mem_of_drop HY.out)
            rw [HCL.out] at hr1
            rw [HOL.out] at hr2
            obtain ⟨i1, rfl⟩ : ∃ i : Nat, j1 = (i : Int) := ⟨j1.toNat, by omega⟩
            obtain ⟨i2, rfl⟩ : ∃ i : Nat, j2 = (i : Int) := ⟨j2.toNat, by omega⟩
            obtain ⟨b3, off3, y1, hA1, hBb3, HZ1, _, p1, _, _⟩ := HC.out.col (k := i1) (by omega)
            first | (subst hA1) | (injection hA1 with hA1; injection hA1 with hA7 hA8; subst hA7; subst hA8)
            obtain ⟨b4, off4, y2, rfl, hBb4, HZ2, _, q1, _, _⟩ := HO.out.col (k := i2) (by omega)
            have HZP : Hid ((List.zip is os).drop k = ((i1 : Int), (i2 : Int)) :: (List.zip is os).drop (k + 1)) := hide (by
              rw [List.zip, List.drop_zipWith, HX.out, HY.out, List.zipWith_cons_cons, List.drop_zipWith])
            have HKP : Hid (kdP cols ocols ((i1 : Int), (i2 : Int)) = (y1.kind != y2.kind)) := hide (by
              rw [kdP]
              simp only [Int.toNat_natCast]
              rw [getD_dr HZ1.out, getD_dr HZ2.out])
            have k0 : (0 : Int) ≤ (k : Int) := by omega
            have k1 : (k : Int) < (m : Int) := by omega
            have i10 : (0 : Int) ≤ (i1 : Int) := by omega
            have i11 : (i1 : Int) < (n1 : Int) := hr1.2
            have i20 : (0 : Int) ≤ (i2 : Int) := by omega
            have i21 : (i2 : Int) < (n2 : Int) := hr2.2
            have HBW := hide SG24.out
            have HBB := hide (below_trans SG23.out SG24.out)
            clear hr1 hr2 HZ1 HZ2 HX HY
            obtain ⟨k3, hk3⟩ : ∃ q, y1.kind = q := ⟨_, rfl⟩
            obtain ⟨k4, hk4⟩ : ∃ q, y2.kind = q := ⟨_, rfl⟩
            rw [hk3] at p1 HKP
            rw [hk4] at q1 HKP
            clear hk3 hk4
            go_wp2
            go_quiet (fail)
            by_cases hq : k3 = k4
            · subst hq
              have HN : Hid ((List.zip is os).any (kdP cols ocols) = ((List.zip is os).drop (k + 1)).any (kdP cols ocols)) := hide (by rw [HE.out, HZP.out, List.any_cons, HKP.out]; simp)
              go_wp2
              all_goals (try (exfalso; go_light; simp_all; done))
              go_roundw
              case rel => exact ⟨k + 1, by omega, by go_num, HN.out, below_drewN HBW.out _⟩
              case measure => simp [RowKit.intOf]; omega
            · have hq2 : (k3 != k4) = true := by simpa using hq
              obtain rfl : R = 7 := by rw [HD2.out, HE.out, HZP.out, List.any_cons, HKP.out, hq2]; simp
              go_wp2
              all_goals (try (exfalso; go_light; simp_all; done))
              go_ret
              exact ⟨rfl, below_drewN HBB.out _⟩
          · obtain rfl : R = 0 := by rw [HD2.out, HE.out, List.drop_eq_nil_of_le (by rw [List.length_zip, HM.out, HM2.out]; omega)]; rfl
            have HBB := hide (below_trans SG23.out SG24.out)
            go_wp2
            all_goals (try (exfalso; go_light; simp_all; done))
            go_ret
            exact ⟨rfl, HBB.out⟩
      · have q5 : ((m : Int) != (m2 : Int)) = true := by simp; omega
        obtain rfl : R = 8 := by rw [HD.out, colsR]; simp [HM.out, HMZ.out, HM1.out, HM2.out, hmm]
        go_wp2
        all_goals (try (exfalso; go_light; simp_all; done))
        go_ret
        exact ⟨rfl, SG23.out⟩
    · have q4 : (oe != 0) = true := by simpa using hoe
      obtain rfl : R = oe := by rw [HD.out, colsR]; simp [HM.out, HMZ.out, HM1.out, hoe]
      go_wp2
      all_goals (try (exfalso; go_light; simp_all; done))
      go_ret
      exact ⟨rfl, SG23.out⟩
  · have q3 : (CE != 0) = true := by simpa using hce
    obtain rfl : R = CE := by rw [HD.out, colsR]; simp [HM.out, HMZ.out, HM1.out, hce]
    go_wp2
    all_goals (try (exfalso; go_light; simp_all; done))
    go_ret
    exact ⟨rfl, SG22.out⟩
set_option maxHeartbeats 4000000 in
set_option maxRecDepth 100000 in
theorem validate28_w3 (w : World) (x : Chk) (A : Option Addr) (n c : Nat) (hn : In w A n c x.cols) (A' : Option Addr) (n' c' : Nat) (hn' : In w A' n' c' x.ocols) (A'' : Option Addr) (n'' c'' : Nat) (hq : In w A'' n'' c'' x.cond)
    (A1 : Option Addr) (n1 c1 : Nat) (cols : List Col) (hc : In w A1 n1 c1 cols) (A2 : Option Addr) (n2 c2 : Nat) (ocols : List Col) (ho : In w A2 n2 c2 ocols) (A5 : Option Addr) (n5 c5 : Nat) (zs : List Zone) (hz : In w A5 n5 c5 zs) (hb0 : n ≤ 4096) (hb1 : n' ≤ 4096) (hb2 : n1 ≤ 4096) (hb3 : n2 ≤ 4096) (hp : ChkPass x) (h4 : ¬ x.kind = 4) (h5 : ¬ x.kind = 5) (p0 : (x.policy == 0) = false) (h2 : (x.kind == 2) = false) (h6 : (x.kind == 6) = true) :
    Calls Tryz.prog 34 #[.agg (chkCells x A n c A' n' c' A'' n'' c'').toArray, .slice A1 n1 c1, .slice A2 n2 c2, .slice A5 n5 c5] w fun e w' => e = .returned (.int .i64 (chkErr x cols ocols zs)) ∧ Below w.heap.size w w' := by
  have HD0 := hide (show chkErr x cols ocols zs = if colsErr cols ≠ 0 then colsErr cols else chkCols x cols ocols from by
    rw [chkErr_parts x cols ocols zs hp.1 hp.2]
    have : usesC x.kind = false := by rw [usesC]; simp [h4, h5]
    rw [this]; simp)
  rw [chkCols_eq x cols ocols] at HD0
  have HI1 := hide fun W hx hy => indices_ref W A1 n1 c1 cols hx A n c x.cols hy (by omega) (by omega)
  have HI2 := hide fun W hx hy => indices_ref W A2 n2 c2 ocols hx A' n' c' x.ocols hy (by omega) (by omega)
  have HR1 := hide (fun h => inds_rng (cols := cols) (names := x.cols) h)
  have HR2 := hide (fun h => inds_rng (cols := ocols) (names := x.ocols) h)
  have HLN1 := hide (Nat.le_trans (inds_len cols x.cols) (by rw [hn.len]; exact hb0))
  have HLN2 := hide (Nat.le_trans (inds_len ocols x.ocols) (by rw [hn'.len]; exact hb1))
  have HCL := hide hc.len
  have HOL := hide ho.len
  obtain ⟨R, hR⟩ : ∃ R, chkErr x cols ocols zs = R := ⟨_, rfl⟩
  obtain ⟨I1, hI1⟩ : ∃ I, indsS cols x.cols = I := ⟨_, rfl⟩
  obtain ⟨I2, hI2⟩ : ∃ I, indsS ocols x.ocols = I := ⟨_, rfl⟩
  obtain ⟨U, hU⟩ : ∃ U, usesO x.kind = U := ⟨_, rfl⟩
  rw [hR, hI1, hI2, hU] at HD0
  rw [hI1] at HI1 HR1 HLN1
  rw [hI2] at HI2 HR2 HLN2
  rw [hR]
  have HU := hide hU
  clear hR hI1 hI2 hU
  obtain ⟨ie, is⟩ := I1
  obtain ⟨oe, os⟩ := I2
  simp only at HD0 HI1 HI2 HR1 HR2 HLN1 HLN2
  obtain ⟨K0, hK0⟩ : ∃ K, (cols.getD (is.getD 0 0).toNat default).kind = K := ⟨_, rfl⟩
  rw [hK0] at HD0
  have HK0 := hide hK0
  clear hK0
  obtain ⟨CE, hCE⟩ : ∃ CE, colsErr ocols = CE := ⟨_, rfl⟩
  rw [hCE] at HD0
  have HCE := hide hCE
  obtain ⟨C1, hC1⟩ : ∃ CE, colsErr cols = CE := ⟨_, rfl⟩
  rw [hC1] at HD0
  have HC1 := hide hC1
  obtain ⟨sg, hsg⟩ : ∃ s, (x.kind == 2 || x.kind == 6) = s := ⟨_, rfl⟩
  rw [hsg] at HD0
  clear hCE hC1
  obtain rfl : sg = true := by rw [← hsg, h2, h6]; rfl
  obtain ⟨d1, d2, d3, d4⟩ := hp.dec
  have e4 : (x.kind == 4) = false := by simpa using h4
  have e5 : (x.kind == 5) = false := by simpa using h5
  clear hsg h4 h5 hp
  simp only [chkCells]
  go_enter Tryz.func34, Tryz.ntmps34
  have HN := hide hn
  clear hn
  have HN2 := hide hn'
  clear hn'
  have HC := hide hc
  clear hc
  have HO := hide ho
  clear ho
  go_wp2_with fail
  obtain ⟨W1, hW1⟩ : ∃ W, W = w.alloc (.cells #[.string x.name, .string x.table, .int .i64 x.kind, .slice A n c, .string x.other, .slice A' n' c', .int .i64 x.low, .int .i64 x.high, .slice A'' n'' c'', .int .i64 x.ln, .int .i64 x.ld, .int .i64 x.mn, .int .i64 x.md, .int .i64 x.policy] 27) := ⟨_, rfl⟩
  obtain ⟨hbW1, SZW1, g0, g1, g2, g3, g4, g5, g6, g7, g8, g9, g10, g11, g12, g13⟩ := boxed14 hW1 rfl
  rw [← hW1]
  clear hW1
  have HN := hide (HN.out.below hbW1)
  have HN2 := hide (HN2.out.below hbW1)
  have HC := hide (HC.out.below hbW1)
  have HO := hide (HO.out.below hbW1)
  have LST25 := hide hbW1
  have SG25 := hide hbW1
  clear hbW1
  have LR := lt_of_cell g0
  go_wp2_with fail
  refine (cols_ref _ A1 n1 c1 cols HC.out).mono ?_
  rintro e w6 ⟨rfl, rfl⟩
  rw [HC1.out]
  by_cases hc1 : C1 = 0
  rotate_left
  · have q0 : (C1 != 0) = true := by simpa using hc1
    obtain rfl : R = C1 := by rw [HD0.out, if_pos hc1]
    go_wp2
    all_goals (try (exfalso; go_light; simp_all; done))
    go_ret
    exact ⟨rfl, SG25.out⟩
  subst hc1
  have HD := hide (show R = colsR true U ie is K0 CE oe os ((List.zip is os).any (kdP cols ocols)) from by rw [HD0.out]; simp)
  go_wp2_with fail
  refine (HI1.out _ (by exact HC.out) (by exact HN.out)).mono ?_
  rintro e w1 ⟨⟨v, rfl, hov⟩, hb1⟩
  obtain ⟨A4, c4, rfl⟩ := hov.form
  obtain ⟨m, hm⟩ : ∃ m, is.length = m := ⟨_, rfl⟩
  have hk9 := ol_in hov rfl
  rw [hm] at hk9 ⊢
  have HM := hide hm
  clear hov hm
  have HN := hide (HN.out.below hb1)
  have HN2 := hide (HN2.out.below hb1)
  have HC := hide (HC.out.below hb1)
  have HO := hide (HO.out.below hb1)
  have g0 := bat hb1 LR g0
  have g1 := bat hb1 LR g1
  have g2 := bat hb1 LR g2
  have g3 := bat hb1 LR g3
  have g4 := bat hb1 LR g4
  have g5 := bat hb1 LR g5
  have g6 := bat hb1 LR g6
  have g7 := bat hb1 LR g7
  have g8 := bat hb1 LR g8
  have g9 := bat hb1 LR g9
  have g10 := bat hb1 LR g10
  have g11 := bat hb1 LR g11
  have g12 := bat hb1 LR g12
  have g13 := bat hb1 LR g13
  have LR := lt_of_cell g0
  have LST26 := hide hb1
  have SG26 := hide (below_trans SG25.out hb1)
  clear hb1
  have HK := hide hk9
  clear hk9
  by_cases h0 : ie = 0
  rotate_left
  · have q0 : (ie != 0) = true := by simpa using h0
    obtain rfl : R = ie := by rw [HD.out, colsR, if_pos h0]
    go_wp2
    all_goals (try (exfalso; go_light; simp_all; done))
    go_ret
    exact ⟨rfl, SG26.out⟩
  subst h0
  by_cases hmz : m = 0
  · subst hmz
    obtain rfl : R = 8 := by rw [HD.out, colsR]; simp [HM.out]
    go_wp2
    all_goals (try (exfalso; go_light; simp_all; done))
    go_ret
    exact ⟨rfl, SG26.out⟩
  have qz : ((m : Int) == 0) = false := by simpa using hmz
  have HMZ := hide hmz
  by_cases hm1 : 1 < m
  · have q1 : decide (1 < (m : Int)) = true := by simp; omega
    obtain rfl : R = 8 := by rw [HD.out, colsR]; simp [HM.out, hm1]
    go_wp2
    all_goals (try (exfalso; go_light; simp_all; done))
    go_ret
    exact ⟨rfl, SG26.out⟩
  have q1 : decide (1 < (m : Int)) = false := by simp; omega
  have HM1 := hide hm1
  obtain ⟨b0, o0, j0, rfl, hBb0, HX0, e0, _⟩ := HK.out.int (k := 0) (by omega)
  rw [Nat.add_zero] at e0
  have hr0 := HR1.out (by first | rfl | trivial) j0 (mem_of_drop HX0.out)
  rw [HCL.out] at hr0
  obtain ⟨i0, rfl⟩ : ∃ i : Nat, j0 = (i : Int) := ⟨j0.toNat, by omega⟩
  obtain ⟨bc, oc, y0, rfl, hBbc, HZ0, _, p0, _, _⟩ := HC.out.col (k := i0) (by omega)
  have i00 : (0 : Int) ≤ (i0 : Int) := by omega
  have i01 : (i0 : Int) < (n1 : Int) := hr0.2
  have z01 : (0 : Int) < (m : Int) := by omega
  obtain ⟨k5, hk5⟩ : ∃ q, y0.kind = q := ⟨_, rfl⟩
  have e5 : K0 = k5 := by
    rw [← HK0.out, getD_dr HX0.out, ← hk5]
    simp only [Int.toNat_natCast]
    rw [getD_dr HZ0.out]
  rw [hk5] at p0
  subst e5
  clear hk5 hr0 HX0 HZ0
  by_cases hk2 : K0 = 2
  rotate_left
  · have q2 : (K0 != 2) = true := by simpa using hk2
    obtain rfl : R = 7 := by rw [HD.out, colsR]; simp [HM.out, HMZ.out, HM1.out, hk2]
    go_wp2
    all_goals (try (exfalso; go_light; simp_all; done))
    go_ret
    exact ⟨rfl, SG26.out⟩
  subst hk2
  have q2 : ((2 : Int) != 2) = false := by decide
  go_wp2_with fail
  refine (usesO_ref _ x A n c A' n' c' A'' n'' c'').mono ?_
  rintro e w27 ⟨rfl, hb27⟩
  have HN := hide (HN.out.below hb27)
  have HN2 := hide (HN2.out.below hb27)
  have HC := hide (HC.out.below hb27)
  have HO := hide (HO.out.below hb27)
  have HK := hide (HK.out.below hb27)
  have g0 := bat hb27 LR g0
  have g1 := bat hb27 LR g1
  have g2 := bat hb27 LR g2
  have g3 := bat hb27 LR g3
  have g4 := bat hb27 LR g4
  have g5 := bat hb27 LR g5
  have g6 := bat hb27 LR g6
  have g7 := bat hb27 LR g7
  have g8 := bat hb27 LR g8
  have g9 := bat hb27 LR g9
  have g10 := bat hb27 LR g10
  have g11 := bat hb27 LR g11
  have g12 := bat hb27 LR g12
  have g13 := bat hb27 LR g13
  have LR := lt_of_cell g0
  have LST28 := hide hb27
  have SG28 := hide (below_trans SG26.out hb27)
  clear hb27
  rw [HU.out]
  cases U
  · obtain rfl : R = 0 := by rw [HD.out, colsR]; simp [HM.out, HMZ.out, HM1.out]
    go_wp2
    all_goals (try (exfalso; go_light; simp_all; done))
    go_ret
    exact ⟨rfl, SG28.out⟩
  go_wp2_with fail
  refine (cols_ref _ A2 n2 c2 ocols HO.out).mono ?_
  rintro e w6 ⟨rfl, rfl⟩
  rw [HCE.out]
  by_cases hce : CE = 0
  · subst hce
    go_wp2_with fail
    refine (HI2.out _ (by exact HO.out) (by exact HN2.out)).mono ?_
    rintro e w7 ⟨⟨v2, rfl, hov2⟩, hb7⟩
    obtain ⟨A5, c5, rfl⟩ := hov2.form
    obtain ⟨m2, hm2⟩ : ∃ m, os.length = m := ⟨_, rfl⟩
    have hk8 := ol_in hov2 rfl
    rw [hm2] at hk8 ⊢
    have HM2 := hide hm2
    clear hov2 hm2
    have HN := hide (HN.out.below hb7)
    have HN2 := hide (HN2.out.below hb7)
    have HC := hide (HC.out.below hb7)
    have HO := hide (HO.out.below hb7)
    have HK := hide (HK.out.below hb7)
    have g0 := bat hb7 LR g0
    have g1 := bat hb7 LR g1
    have g2 := bat hb7 LR g2
    have g3 := bat hb7 LR g3
    have g4 := bat hb7 LR g4
    have g5 := bat hb7 LR g5
    have g6 := bat hb7 LR g6
    have g7 := bat hb7 LR g7
    have g8 := bat hb7 LR g8
    have g9 := bat hb7 LR g9
    have g10 := bat hb7 LR g10
    have g11 := bat hb7 LR g11
    have g12 := bat hb7 LR g12
    have g13 := bat hb7 LR g13
    have LR := lt_of_cell g0
    have LST29 := hide hb7
    have SG29 := hide (below_trans SG28.out hb7)
    clear hb7
    have HK2 := hide hk8
    clear hk8
    by_cases hoe : oe = 0
    · subst hoe
      by_cases hmm : m = m2
      · subst hmm
        have HD2 : Hid (R = if (List.zip is os).any (kdP cols ocols) = true then 7 else 0) := hide (by rw [HD.out, colsR]; simp [HM.out, HMZ.out, HM1.out, HM2.out])
        obtain ⟨W5, rfl⟩ : ∃ W, W = w7 := ⟨_, rfl⟩
        have h63 := HK.out.le
        go_wp2
        go_loopw [20] (fun i wr => ∃ k : Nat, k ≤ m ∧ i = .int .i64 k ∧ (List.zip is os).any (kdP cols ocols) = ((List.zip is os).drop k).any (kdP cols ocols) ∧ Below W5.heap.size W5 wr) (fun i _ => m - (RowKit.intOf i).toNat)
        case atStart => exact ⟨0, Nat.zero_le _, rfl, rfl, Below.refl _ _⟩
        case round =>
          obtain ⟨k, hk, rfl, heq, hb⟩ := hrel
          have HE := hide heq
          clear heq
          have HN := hide (HN.out.below hb)
          have HN2 := hide (HN2.out.below hb)
          have HC := hide (HC.out.below hb)
          have HO := hide (HO.out.below hb)
          have HK := hide (HK.out.below hb)
          have HK2 := hide (HK2.out.below hb)
          have g0 := bat hb LR g0
          have g1 := bat hb LR g1
          have g2 := bat hb LR g2
          have g3 := bat hb LR g3
          have g4 := bat hb LR g4
          have g5 := bat hb LR g5
          have g6 := bat hb LR g6
          have g7 := bat hb LR g7
          have g8 := bat hb LR g8
          have g9 := bat hb LR g9
          have g10 := bat hb LR g10
          have g11 := bat hb LR g11
          have g12 := bat hb LR g12
          have g13 := bat hb LR g13
          have LR := lt_of_cell g0
          have LST30 := hide hb
          have SG30 := hide hb
          clear hb
          clear g0 g1 g2 g3 g4 g5 g6 g7 g8 g9 g10 g11 g12 g13
          by_cases hlt : k < m
          · obtain ⟨b, off, j1, hA4, hBb, HX, e0, _⟩ := HK.out.int hlt
            first | (subst hA4) | (injection hA4 with hA4; injection hA4 with hA5 hA6; subst hA5; subst hA6)
            obtain ⟨b2, off2, j2, rfl, hBb2, HY, f0, _⟩ := HK2.out.int hlt
            have hr1 := HR1.out (by first | rfl | trivial) j1 (mem_of_drop HX.out)
            have hr2 := HR2.out (by first | rfl | trivial) j2 (mem_of_drop HY.out)
            rw [HCL.out] at hr1
            rw [HOL.out] at hr2
            obtain ⟨i1, rfl⟩ : ∃ i : Nat, j1 = (i : Int) := ⟨j1.toNat, by omega⟩
            obtain ⟨i2, rfl⟩ : ∃ i : Nat, j2 = (i : Int) := ⟨j2.toNat, by omega⟩
            obtain ⟨b3, off3, y1, hA1, hBb3, HZ1, _, p1, _, _⟩ := HC.out.col (k := i1) (by omega)
            first | (subst hA1) | (injection hA1 with hA1; injection hA1 with hA7 hA8; subst hA7; subst hA8)
            obtain ⟨b4, off4, y2, rfl, hBb4, HZ2, _, q1, _, _⟩ := HO.out.col (k := i2) (by omega)
            have HZP : Hid ((List.zip is os).drop k = ((i1 : Int), (i2 : Int)) :: (List.zip is os).drop (k + 1)) := hide (by
              rw [List.zip, List.drop_zipWith, HX.out, HY.out, List.zipWith_cons_cons, List.drop_zipWith])
            have HKP : Hid (kdP cols ocols ((i1 : Int), (i2 : Int)) = (y1.kind != y2.kind)) := hide (by
              rw [kdP]
              simp only [Int.toNat_natCast]
              rw [getD_dr HZ1.out, getD_dr HZ2.out])
            have k0 : (0 : Int) ≤ (k : Int) := by omega
            have k1 : (k : Int) < (m : Int) := by omega
            have i10 : (0 : Int) ≤ (i1 : Int) := by omega
            have i11 : (i1 : Int) < (n1 : Int) := hr1.2
            have i20 : (0 : Int) ≤ (i2 : Int) := by omega
            have i21 : (i2 : Int) < (n2 : Int) := hr2.2
            have HBW := hide SG30.out
            have HBB := hide (below_trans SG29.out SG30.out)
            clear hr1 hr2 HZ1 HZ2 HX HY
            obtain ⟨k3, hk3⟩ : ∃ q, y1.kind = q := ⟨_, rfl⟩
            obtain ⟨k4, hk4⟩ : ∃ q, y2.kind = q := ⟨_, rfl⟩
            rw [hk3] at p1 HKP
            rw [hk4] at q1 HKP
            clear hk3 hk4
            go_wp2
            go_quiet (fail)
            by_cases hq : k3 = k4
            · subst hq
              have HN : Hid ((List.zip is os).any (kdP cols ocols) = ((List.zip is os).drop (k + 1)).any (kdP cols ocols)) := hide (by rw [HE.out, HZP.out, List.any_cons, HKP.out]; simp)
              go_wp2
              all_goals (try (exfalso; go_light; simp_all; done))
              go_roundw
              case rel => exact ⟨k + 1, by omega, by go_num, HN.out, below_drewN HBW.out _⟩
              case measure => simp [RowKit.intOf]; omega
            · have hq2 : (k3 != k4) = true := by simpa using hq
              obtain rfl : R = 7 := by rw [HD2.out, HE.out, HZP.out, List.any_cons, HKP.out, hq2]; simp
              go_wp2
              all_goals (try (exfalso; go_light; simp_all; done))
              go_ret
              exact ⟨rfl, below_drewN HBB.out _⟩
          · obtain rfl : R = 0 := by rw [HD2.out, HE.out, List.drop_eq_nil_of_le (by rw [List.length_zip, HM.out, HM2.out]; omega)]; rfl
            have HBB := hide (below_trans SG29.out SG30.out)
            go_wp2
            all_goals (try (exfalso; go_light; simp_all; done))
            go_ret
            exact ⟨rfl, HBB.out⟩
      · have q5 : ((m : Int) != (m2 : Int)) = true := by simp; omega
        obtain rfl : R = 8 := by rw [HD.out, colsR]; simp [HM.out, HMZ.out, HM1.out, HM2.out, hmm]
        go_wp2
        all_goals (try (exfalso; go_light; simp_all; done))
        go_ret
        exact ⟨rfl, SG29.out⟩
    · have q4 : (oe != 0) = true := by simpa using hoe
      obtain rfl : R = oe := by rw [HD.out, colsR]; simp [HM.out, HMZ.out, HM1.out, hoe]
      go_wp2
      all_goals (try (exfalso; go_light; simp_all; done))
      go_ret
      exact ⟨rfl, SG29.out⟩
  · have q3 : (CE != 0) = true := by simpa using hce
    obtain rfl : R = CE := by rw [HD.out, colsR]; simp [HM.out, HMZ.out, HM1.out, hce]
    go_wp2
    all_goals (try (exfalso; go_light; simp_all; done))
    go_ret
    exact ⟨rfl, SG28.out⟩
set_option maxHeartbeats 4000000 in
set_option maxRecDepth 100000 in
theorem validate28_w4 (w : World) (x : Chk) (A : Option Addr) (n c : Nat) (hn : In w A n c x.cols) (A' : Option Addr) (n' c' : Nat) (hn' : In w A' n' c' x.ocols) (A'' : Option Addr) (n'' c'' : Nat) (hq : In w A'' n'' c'' x.cond)
    (A1 : Option Addr) (n1 c1 : Nat) (cols : List Col) (hc : In w A1 n1 c1 cols) (A2 : Option Addr) (n2 c2 : Nat) (ocols : List Col) (ho : In w A2 n2 c2 ocols) (A5 : Option Addr) (n5 c5 : Nat) (zs : List Zone) (hz : In w A5 n5 c5 zs) (hb0 : n ≤ 4096) (hb1 : n' ≤ 4096) (hb2 : n1 ≤ 4096) (hb3 : n2 ≤ 4096) (hp : ChkPass x) (h4 : ¬ x.kind = 4) (h5 : ¬ x.kind = 5) (p0 : (x.policy == 0) = false) (h2 : (x.kind == 2) = false) (h6 : (x.kind == 6) = false) :
    Calls Tryz.prog 34 #[.agg (chkCells x A n c A' n' c' A'' n'' c'').toArray, .slice A1 n1 c1, .slice A2 n2 c2, .slice A5 n5 c5] w fun e w' => e = .returned (.int .i64 (chkErr x cols ocols zs)) ∧ Below w.heap.size w w' := by
  have HD0 := hide (show chkErr x cols ocols zs = if colsErr cols ≠ 0 then colsErr cols else chkCols x cols ocols from by
    rw [chkErr_parts x cols ocols zs hp.1 hp.2]
    have : usesC x.kind = false := by rw [usesC]; simp [h4, h5]
    rw [this]; simp)
  rw [chkCols_eq x cols ocols] at HD0
  have HI1 := hide fun W hx hy => indices_ref W A1 n1 c1 cols hx A n c x.cols hy (by omega) (by omega)
  have HI2 := hide fun W hx hy => indices_ref W A2 n2 c2 ocols hx A' n' c' x.ocols hy (by omega) (by omega)
  have HR1 := hide (fun h => inds_rng (cols := cols) (names := x.cols) h)
  have HR2 := hide (fun h => inds_rng (cols := ocols) (names := x.ocols) h)
  have HLN1 := hide (Nat.le_trans (inds_len cols x.cols) (by rw [hn.len]; exact hb0))
  have HLN2 := hide (Nat.le_trans (inds_len ocols x.ocols) (by rw [hn'.len]; exact hb1))
  have HCL := hide hc.len
  have HOL := hide ho.len
  obtain ⟨R, hR⟩ : ∃ R, chkErr x cols ocols zs = R := ⟨_, rfl⟩
  obtain ⟨I1, hI1⟩ : ∃ I, indsS cols x.cols = I := ⟨_, rfl⟩
  obtain ⟨I2, hI2⟩ : ∃ I, indsS ocols x.ocols = I := ⟨_, rfl⟩
  obtain ⟨U, hU⟩ : ∃ U, usesO x.kind = U := ⟨_, rfl⟩
  rw [hR, hI1, hI2, hU] at HD0
  rw [hI1] at HI1 HR1 HLN1
  rw [hI2] at HI2 HR2 HLN2
  rw [hR]
  have HU := hide hU
  clear hR hI1 hI2 hU
  obtain ⟨ie, is⟩ := I1
  obtain ⟨oe, os⟩ := I2
  simp only at HD0 HI1 HI2 HR1 HR2 HLN1 HLN2
  obtain ⟨K0, hK0⟩ : ∃ K, (cols.getD (is.getD 0 0).toNat default).kind = K := ⟨_, rfl⟩
  rw [hK0] at HD0
  have HK0 := hide hK0
  clear hK0
  obtain ⟨CE, hCE⟩ : ∃ CE, colsErr ocols = CE := ⟨_, rfl⟩
  rw [hCE] at HD0
  have HCE := hide hCE
  obtain ⟨C1, hC1⟩ : ∃ CE, colsErr cols = CE := ⟨_, rfl⟩
  rw [hC1] at HD0
  have HC1 := hide hC1
  obtain ⟨sg, hsg⟩ : ∃ s, (x.kind == 2 || x.kind == 6) = s := ⟨_, rfl⟩
  rw [hsg] at HD0
  clear hCE hC1
  obtain rfl : sg = false := by rw [← hsg, h2, h6]; rfl
  obtain ⟨d1, d2, d3, d4⟩ := hp.dec
  have e4 : (x.kind == 4) = false := by simpa using h4
  have e5 : (x.kind == 5) = false := by simpa using h5
  clear hsg h4 h5 hp
  simp only [chkCells]
  go_enter Tryz.func34, Tryz.ntmps34
  have HN := hide hn
  clear hn
  have HN2 := hide hn'
  clear hn'
  have HC := hide hc
  clear hc
  have HO := hide ho
  clear ho
  go_wp2_with fail
  obtain ⟨W1, hW1⟩ : ∃ W, W = w.alloc (.cells #[.string x.name, .string x.table, .int .i64 x.kind, .slice A n c, .string x.other, .slice A' n' c', .int .i64 x.low, .int .i64 x.high, .slice A'' n'' c'', .int .i64 x.ln, .int .i64 x.ld, .int .i64 x.mn, .int .i64 x.md, .int .i64 x.policy] 27) := ⟨_, rfl⟩
  obtain ⟨hbW1, SZW1, g0, g1, g2, g3, g4, g5, g6, g7, g8, g9, g10, g11, g12, g13⟩ := boxed14 hW1 rfl
  rw [← hW1]
  clear hW1
  have HN := hide (HN.out.below hbW1)
  have HN2 := hide (HN2.out.below hbW1)
  have HC := hide (HC.out.below hbW1)
  have HO := hide (HO.out.below hbW1)
  have LST31 := hide hbW1
  have SG31 := hide hbW1
  clear hbW1
  have LR := lt_of_cell g0
  go_wp2_with fail
  refine (cols_ref _ A1 n1 c1 cols HC.out).mono ?_
  rintro e w6 ⟨rfl, rfl⟩
  rw [HC1.out]
  by_cases hc1 : C1 = 0
  rotate_left
  · have q0 : (C1 != 0) = true := by simpa using hc1
    obtain rfl : R = C1 := by rw [HD0.out, if_pos hc1]
    go_wp2
    all_goals (try (exfalso; go_light; simp_all; done))
    go_ret
    exact ⟨rfl, SG31.out⟩
  subst hc1
  have HD := hide (show R = colsR false U ie is K0 CE oe os ((List.zip is os).any (kdP cols ocols)) from by rw [HD0.out]; simp)
  go_wp2_with fail
  refine (HI1.out _ (by exact HC.out) (by exact HN.out)).mono ?_
  rintro e w1 ⟨⟨v, rfl, hov⟩, hb1⟩
  obtain ⟨A4, c4, rfl⟩ := hov.form
  obtain ⟨m, hm⟩ : ∃ m, is.length = m := ⟨_, rfl⟩
  have hk9 := ol_in hov rfl
  rw [hm] at hk9 ⊢
  have HM := hide hm
  clear hov hm
  have HN := hide (HN.out.below hb1)
  have HN2 := hide (HN2.out.below hb1)
  have HC := hide (HC.out.below hb1)
  have HO := hide (HO.out.below hb1)
  have g0 := bat hb1 LR g0
  have g1 := bat hb1 LR g1
  have g2 := bat hb1 LR g2
  have g3 := bat hb1 LR g3
  have g4 := bat hb1 LR g4
  have g5 := bat hb1 LR g5
  have g6 := bat hb1 LR g6
  have g7 := bat hb1 LR g7
  have g8 := bat hb1 LR g8
  have g9 := bat hb1 LR g9
  have g10 := bat hb1 LR g10
  have g11 := bat hb1 LR g11
  have g12 := bat hb1 LR g12
  have g13 := bat hb1 LR g13
  have LR := lt_of_cell g0
  have LST32 := hide hb1
  have SG32 := hide (below_trans SG31.out hb1)
  clear hb1
  have HK := hide hk9
  clear hk9
  by_cases h0 : ie = 0
  rotate_left
  · have q0 : (ie != 0) = true := by simpa using h0
    obtain rfl : R = ie := by rw [HD.out, colsR, if_pos h0]
    go_wp2
    all_goals (try (exfalso; go_light; simp_all; done))
    go_ret
    exact ⟨rfl, SG32.out⟩
  subst h0
  by_cases hmz : m = 0
  · subst hmz
    obtain rfl : R = 8 := by rw [HD.out, colsR]; simp [HM.out]
    go_wp2
    all_goals (try (exfalso; go_light; simp_all; done))
    go_ret
    exact ⟨rfl, SG32.out⟩
  have qz : ((m : Int) == 0) = false := by simpa using hmz
  have HMZ := hide hmz
  go_wp2_with fail
  refine (usesO_ref _ x A n c A' n' c' A'' n'' c'').mono ?_
  rintro e w33 ⟨rfl, hb33⟩
  have HN := hide (HN.out.below hb33)
  have HN2 := hide (HN2.out.below hb33)
  have HC := hide (HC.out.below hb33)
  have HO := hide (HO.out.below hb33)
  have HK := hide (HK.out.below hb33)
  have g0 := bat hb33 LR g0
  have g1 := bat hb33 LR g1
  have g2 := bat hb33 LR g2
  have g3 := bat hb33 LR g3
  have g4 := bat hb33 LR g4
  have g5 := bat hb33 LR g5
  have g6 := bat hb33 LR g6
  have g7 := bat hb33 LR g7
  have g8 := bat hb33 LR g8
  have g9 := bat hb33 LR g9
  have g10 := bat hb33 LR g10
  have g11 := bat hb33 LR g11
  have g12 := bat hb33 LR g12
  have g13 := bat hb33 LR g13
  have LR := lt_of_cell g0
  have LST34 := hide hb33
  have SG34 := hide (below_trans SG32.out hb33)
  clear hb33
  rw [HU.out]
  cases U
  · obtain rfl : R = 0 := by rw [HD.out, colsR]; simp [HM.out, HMZ.out]
    go_wp2
    all_goals (try (exfalso; go_light; simp_all; done))
    go_ret
    exact ⟨rfl, SG34.out⟩
  go_wp2_with fail
  refine (cols_ref _ A2 n2 c2 ocols HO.out).mono ?_
  rintro e w6 ⟨rfl, rfl⟩
  rw [HCE.out]
  by_cases hce : CE = 0
  · subst hce
    go_wp2_with fail
    refine (HI2.out _ (by exact HO.out) (by exact HN2.out)).mono ?_
    rintro e w7 ⟨⟨v2, rfl, hov2⟩, hb7⟩
    obtain ⟨A5, c5, rfl⟩ := hov2.form
    obtain ⟨m2, hm2⟩ : ∃ m, os.length = m := ⟨_, rfl⟩
    have hk8 := ol_in hov2 rfl
    rw [hm2] at hk8 ⊢
    have HM2 := hide hm2
    clear hov2 hm2
    have HN := hide (HN.out.below hb7)
    have HN2 := hide (HN2.out.below hb7)
    have HC := hide (HC.out.below hb7)
    have HO := hide (HO.out.below hb7)
    have HK := hide (HK.out.below hb7)
    have g0 := bat hb7 LR g0
    have g1 := bat hb7 LR g1
    have g2 := bat hb7 LR g2
    have g3 := bat hb7 LR g3
    have g4 := bat hb7 LR g4
    have g5 := bat hb7 LR g5
    have g6 := bat hb7 LR g6
    have g7 := bat hb7 LR g7
    have g8 := bat hb7 LR g8
    have g9 := bat hb7 LR g9
    have g10 := bat hb7 LR g10
    have g11 := bat hb7 LR g11
    have g12 := bat hb7 LR g12
    have g13 := bat hb7 LR g13
    have LR := lt_of_cell g0
    have LST35 := hide hb7
    have SG35 := hide (below_trans SG34.out hb7)
    clear hb7
    have HK2 := hide hk8
    clear hk8
    by_cases hoe : oe = 0
    · subst hoe
      by_cases hmm : m = m2
      · subst hmm
        have HD2 : Hid (R = if (List.zip is os).any (kdP cols ocols) = true then 7 else 0) := hide (by rw [HD.out, colsR]; simp [HM.out, HMZ.out, HM2.out])
        obtain ⟨W5, rfl⟩ : ∃ W, W = w7 := ⟨_, rfl⟩
        have h63 := HK.out.le
        go_wp2
        go_loopw [20] (fun i wr => ∃ k : Nat, k ≤ m ∧ i = .int .i64 k ∧ (List.zip is os).any (kdP cols ocols) = ((List.zip is os).drop k).any (kdP cols ocols) ∧ Below W5.heap.size W5 wr) (fun i _ => m - (RowKit.intOf i).toNat)
        case atStart => exact ⟨0, Nat.zero_le _, rfl, rfl, Below.refl _ _⟩
        case round =>
          obtain ⟨k, hk, rfl, heq, hb⟩ := hrel
          have HE := hide heq
          clear heq
          have HN := hide (HN.out.below hb)
          have HN2 := hide (HN2.out.below hb)
          have HC := hide (HC.out.below hb)
          have HO := hide (HO.out.below hb)
          have HK := hide (HK.out.below hb)
          have HK2 := hide (HK2.out.below hb)
          have g0 := bat hb LR g0
          have g1 := bat hb LR g1
          have g2 := bat hb LR g2
          have g3 := bat hb LR g3
          have g4 := bat hb LR g4
          have g5 := bat hb LR g5
          have g6 := bat hb LR g6
          have g7 := bat hb LR g7
          have g8 := bat hb LR g8
          have g9 := bat hb LR g9
          have g10 := bat hb LR g10
          have g11 := bat hb LR g11
          have g12 := bat hb LR g12
          have g13 := bat hb LR g13
          have LR := lt_of_cell g0
          have LST36 := hide hb
          have SG36 := hide hb
          clear hb
          clear g0 g1 g2 g3 g4 g5 g6 g7 g8 g9 g10 g11 g12 g13
          by_cases hlt : k < m
          · obtain ⟨b, off, j1, hA4, hBb, HX, e0, _⟩ := HK.out.int hlt
            first | (subst hA4) | (injection hA4 with hA4; injection hA4 with hA5 hA6; subst hA5; subst hA6)
            obtain ⟨b2, off2, j2, rfl, hBb2, HY, f0, _⟩ := HK2.out.int hlt
            have hr1 := HR1.out (by first | rfl | trivial) j1 (mem_of_drop HX.out)
            have hr2 := HR2.out (by first | rfl | trivial) j2 (mem_of_drop HY.out)
            rw [HCL.out] at hr1
            rw [HOL.out] at hr2
            obtain ⟨i1, rfl⟩ : ∃ i : Nat, j1 = (i : Int) := ⟨j1.toNat, by omega⟩
            obtain ⟨i2, rfl⟩ : ∃ i : Nat, j2 = (i : Int) := ⟨j2.toNat, by omega⟩
            obtain ⟨b3, off3, y1, hA1, hBb3, HZ1, _, p1, _, _⟩ := HC.out.col (k := i1) (by omega)
            first | (subst hA1) | (injection hA1 with hA1; injection hA1 with hA7 hA8; subst hA7; subst hA8)
            obtain ⟨b4, off4, y2, rfl, hBb4, HZ2, _, q1, _, _⟩ := HO.out.col (k := i2) (by omega)
            have HZP : Hid ((List.zip is os).drop k = ((i1 : Int), (i2 : Int)) :: (List.zip is os).drop (k + 1)) := hide (by
              rw [List.zip, List.drop_zipWith, HX.out, HY.out, List.zipWith_cons_cons, List.drop_zipWith])
            have HKP : Hid (kdP cols ocols ((i1 : Int), (i2 : Int)) = (y1.kind != y2.kind)) := hide (by
              rw [kdP]
              simp only [Int.toNat_natCast]
              rw [getD_dr HZ1.out, getD_dr HZ2.out])
            have k0 : (0 : Int) ≤ (k : Int) := by omega
            have k1 : (k : Int) < (m : Int) := by omega
            have i10 : (0 : Int) ≤ (i1 : Int) := by omega
            have i11 : (i1 : Int) < (n1 : Int) := hr1.2
            have i20 : (0 : Int) ≤ (i2 : Int) := by omega
            have i21 : (i2 : Int) < (n2 : Int) := hr2.2
            have HBW := hide SG36.out
            have HBB := hide (below_trans SG35.out SG36.out)
            clear hr1 hr2 HZ1 HZ2 HX HY
            obtain ⟨k3, hk3⟩ : ∃ q, y1.kind = q := ⟨_, rfl⟩
            obtain ⟨k4, hk4⟩ : ∃ q, y2.kind = q := ⟨_, rfl⟩
            rw [hk3] at p1 HKP
            rw [hk4] at q1 HKP
            clear hk3 hk4
            go_wp2
            go_quiet (fail)
            by_cases hq : k3 = k4
            · subst hq
              have HN : Hid ((List.zip is os).any (kdP cols ocols) = ((List.zip is os).drop (k + 1)).any (kdP cols ocols)) := hide (by rw [HE.out, HZP.out, List.any_cons, HKP.out]; simp)
              go_wp2
              all_goals (try (exfalso; go_light; simp_all; done))
              go_roundw
              case rel => exact ⟨k + 1, by omega, by go_num, HN.out, below_drewN HBW.out _⟩
              case measure => simp [RowKit.intOf]; omega
            · have hq2 : (k3 != k4) = true := by simpa using hq
              obtain rfl : R = 7 := by rw [HD2.out, HE.out, HZP.out, List.any_cons, HKP.out, hq2]; simp
              go_wp2
              all_goals (try (exfalso; go_light; simp_all; done))
              go_ret
              exact ⟨rfl, below_drewN HBB.out _⟩
          · obtain rfl : R = 0 := by rw [HD2.out, HE.out, List.drop_eq_nil_of_le (by rw [List.length_zip, HM.out, HM2.out]; omega)]; rfl
            have HBB := hide (below_trans SG35.out SG36.out)
            go_wp2
            all_goals (try (exfalso; go_light; simp_all; done))
            go_ret
            exact ⟨rfl, HBB.out⟩
      · have q5 : ((m : Int) != (m2 : Int)) = true := by simp; omega
        obtain rfl : R = 8 := by rw [HD.out, colsR]; simp [HM.out, HMZ.out, HM2.out, hmm]
        go_wp2
        all_goals (try (exfalso; go_light; simp_all; done))
        go_ret
        exact ⟨rfl, SG35.out⟩
    · have q4 : (oe != 0) = true := by simpa using hoe
      obtain rfl : R = oe := by rw [HD.out, colsR]; simp [HM.out, HMZ.out, hoe]
      go_wp2
      all_goals (try (exfalso; go_light; simp_all; done))
      go_ret
      exact ⟨rfl, SG35.out⟩
  · have q3 : (CE != 0) = true := by simpa using hce
    obtain rfl : R = CE := by rw [HD.out, colsR]; simp [HM.out, HMZ.out, hce]
    go_wp2
    all_goals (try (exfalso; go_light; simp_all; done))
    go_ret
    exact ⟨rfl, SG34.out⟩
theorem validate28_cols (w : World) (x : Chk) (A : Option Addr) (n c : Nat) (hn : In w A n c x.cols) (A' : Option Addr) (n' c' : Nat) (hn' : In w A' n' c' x.ocols) (A'' : Option Addr) (n'' c'' : Nat) (hq : In w A'' n'' c'' x.cond)
    (A1 : Option Addr) (n1 c1 : Nat) (cols : List Col) (hc : In w A1 n1 c1 cols) (A2 : Option Addr) (n2 c2 : Nat) (ocols : List Col) (ho : In w A2 n2 c2 ocols) (A5 : Option Addr) (n5 c5 : Nat) (zs : List Zone) (hz : In w A5 n5 c5 zs) (hb0 : n ≤ 4096) (hb1 : n' ≤ 4096) (hb2 : n1 ≤ 4096) (hb3 : n2 ≤ 4096) (hp : ChkPass x) (h4 : ¬ x.kind = 4) (h5 : ¬ x.kind = 5) :
    Calls Tryz.prog 34 #[.agg (chkCells x A n c A' n' c' A'' n'' c'').toArray, .slice A1 n1 c1, .slice A2 n2 c2, .slice A5 n5 c5] w fun e w' => e = .returned (.int .i64 (chkErr x cols ocols zs)) ∧ Below w.heap.size w w' := by
  cases p0 : (x.policy == 0)
  · cases q1 : (x.kind == 2)
    · cases q2 : (x.kind == 6)
      · exact validate28_w4 w x A n c hn A' n' c' hn' A'' n'' c'' hq A1 n1 c1 cols hc A2 n2 c2 ocols ho A5 n5 c5 zs hz hb0 hb1 hb2 hb3 hp h4 h5 p0 q1 q2
      · exact validate28_w3 w x A n c hn A' n' c' hn' A'' n'' c'' hq A1 n1 c1 cols hc A2 n2 c2 ocols ho A5 n5 c5 zs hz hb0 hb1 hb2 hb3 hp h4 h5 p0 q1 q2
    · exact validate28_w2 w x A n c hn A' n' c' hn' A'' n'' c'' hq A1 n1 c1 cols hc A2 n2 c2 ocols ho A5 n5 c5 zs hz hb0 hb1 hb2 hb3 hp h4 h5 p0 q1
  · have q2 : (x.kind == 6) = false := by
      have h0 : x.policy = 0 := by simpa using p0
      have := hp.2
      simp only [beq_eq_false_iff_ne]
      omega
    cases q1 : (x.kind == 2)
    · exact validate28_w1 w x A n c hn A' n' c' hn' A'' n'' c'' hq A1 n1 c1 cols hc A2 n2 c2 ocols ho A5 n5 c5 zs hz hb0 hb1 hb2 hb3 hp h4 h5 p0 q2 q1
    · exact validate28_w0 w x A n c hn A' n' c' hn' A'' n'' c'' hq A1 n1 c1 cols hc A2 n2 c2 ocols ho A5 n5 c5 zs hz hb0 hb1 hb2 hb3 hp h4 h5 p0 q2 q1
end Go.Proofs.YtodapiholjeehaaGreatDoor
