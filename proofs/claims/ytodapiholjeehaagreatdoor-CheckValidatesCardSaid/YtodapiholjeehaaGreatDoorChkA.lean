/-
  check.Validate, check.checkAll. (Printed by gen_chka.py.)
-/
import Derived.Test.YtodapiholjeehaaGreatDoorChkV
namespace Go.Proofs.YtodapiholjeehaaGreatDoor
open Go.RowKit
set_option linter.unusedSimpArgs false
set_option linter.unusedVariables false
theorem chkErr_parts (x : Chk) (cols ocols : List Col) (zs : List Zone) (h1 : ¬ (x.kind < 0 ∨ 6 < x.kind ∨ x.policy < 0 ∨ 2 < x.policy)) (h2 : ¬ (x.policy = 0 ∧ (x.kind = 5 ∨ x.kind = 6))) :
    chkErr x cols ocols zs = if colsErr cols ≠ 0 then colsErr cols else if usesC x.kind = false then chkCols x cols ocols else if chkCond x cols zs ≠ 0 then chkCond x cols zs else if x.kind = 5 ∧ (ratioOk x.ln x.ld && ratioOk x.mn x.md) = false then 1 else 0 := by
  rw [chkErr, if_neg h1, if_neg h2]
set_option maxHeartbeats 4000000 in
set_option maxRecDepth 100000 in
theorem chkValidate_any (w : World) (x : Chk) (A : Option Addr) (n c : Nat) (hn : In w A n c x.cols) (A' : Option Addr) (n' c' : Nat) (hn' : In w A' n' c' x.ocols) (A'' : Option Addr) (n'' c'' : Nat) (hq : In w A'' n'' c'' x.cond) (hw : Words w)
    (A1 : Option Addr) (n1 c1 : Nat) (cols : List Col) (hc : In w A1 n1 c1 cols) (A2 : Option Addr) (n2 c2 : Nat) (ocols : List Col) (ho : In w A2 n2 c2 ocols) (A5 : Option Addr) (n5 c5 : Nat) (zs : List Zone) (hz : In w A5 n5 c5 zs) (hb0 : n ≤ 4096) (hb1 : n' ≤ 4096) (hb2 : n1 ≤ 4096) (hb3 : n2 ≤ 4096) :
    Calls Tryz.prog 33 #[.agg (chkCells x A n c A' n' c' A'' n'' c'').toArray, .slice A1 n1 c1, .slice A2 n2 c2, .slice A5 n5 c5] w fun e w' => e = .returned (.int .i64 (chkErr x cols ocols zs)) ∧ Below w.heap.size w w' := by
  have HCC := hide fun W hn hn' hc ho => checkColumns_any W x A n c hn A' n' c' hn' A'' n'' c'' A1 n1 c1 cols hc A2 n2 c2 ocols ho hb0 hb1 hb2 hb3
  have HCD := hide fun W hq hw hc hz => checkCond_any W x A n c A' n' c' A'' n'' c'' hq hw A1 n1 c1 cols hc A5 n5 c5 zs hz
  have HUC := hide fun W => usesC_any W x.kind
  have HS1 := hide fun W => share_any W x.ln x.ld
  have HS2 := hide fun W => share_any W x.mn x.md
  have HP := hide (chkErr_parts x cols ocols zs)
  have HD := hide (show chkErr x cols ocols zs = if x.kind < 0 ∨ 6 < x.kind ∨ x.policy < 0 ∨ 2 < x.policy then 1 else if x.policy = 0 ∧ (x.kind = 5 ∨ x.kind = 6) then 7 else chkErr x cols ocols zs from by
    by_cases h1 : x.kind < 0 ∨ 6 < x.kind ∨ x.policy < 0 ∨ 2 < x.policy
    · rw [if_pos h1, chkErr, if_pos h1]
    · rw [if_neg h1]
      by_cases h2 : x.policy = 0 ∧ (x.kind = 5 ∨ x.kind = 6)
      · rw [if_pos h2, chkErr, if_neg h1, if_pos h2]
      · rw [if_neg h2])
  obtain ⟨R, hR⟩ : ∃ R, chkErr x cols ocols zs = R := ⟨_, rfl⟩
  rw [hR] at HD HP
  rw [hR]
  obtain ⟨CE, hCE⟩ : ∃ C, colsErr cols = C := ⟨_, rfl⟩
  obtain ⟨CK, hCK⟩ : ∃ C, chkCols x cols ocols = C := ⟨_, rfl⟩
  obtain ⟨CD, hCD⟩ : ∃ C, chkCond x cols zs = C := ⟨_, rfl⟩
  obtain ⟨UC, hUC⟩ : ∃ U, usesC x.kind = U := ⟨_, rfl⟩
  obtain ⟨S1, hS1⟩ : ∃ S, ratioOk x.ln x.ld = S := ⟨_, rfl⟩
  obtain ⟨S2, hS2⟩ : ∃ S, ratioOk x.mn x.md = S := ⟨_, rfl⟩
  rw [hCE, hCK, hCD, hUC, hS1, hS2] at HP
  rw [hCK] at HCC
  rw [hCD] at HCD
  rw [hUC] at HUC
  rw [hS1] at HS1
  rw [hS2] at HS2
  have HCE := hide hCE
  clear hR hCE hCK hCD hUC hS1 hS2
  have hA : (decide (x.kind < 0) = true ∧ R = 1) ∨ (decide (x.kind < 0) = false ∧ decide (6 < x.kind) = true ∧ R = 1) ∨ (decide (x.kind < 0) = false ∧ decide (6 < x.kind) = false ∧ decide (x.policy < 0) = true ∧ R = 1)
      ∨ (decide (x.kind < 0) = false ∧ decide (6 < x.kind) = false ∧ decide (x.policy < 0) = false ∧ decide (2 < x.policy) = true ∧ R = 1)
      ∨ (decide (x.kind < 0) = false ∧ decide (6 < x.kind) = false ∧ decide (x.policy < 0) = false ∧ decide (2 < x.policy) = false ∧ ((((x.policy == 0) = true ∧ (x.kind == 5) = true ∧ R = 7) ∨ ((x.policy == 0) = true ∧ (x.kind == 5) = false ∧ (x.kind == 6) = true ∧ R = 7)
        ∨ ((x.policy == 0) = true ∧ (x.kind == 5) = false ∧ (x.kind == 6) = false ∧ Hid (R = if CE ≠ 0 then CE else if UC = false then CK else if CD ≠ 0 then CD else if x.kind = 5 ∧ (S1 && S2) = false then 1 else 0)) ∨ ((x.policy == 0) = false ∧ Hid (R = if CE ≠ 0 then CE else if UC = false then CK else if CD ≠ 0 then CD else if x.kind = 5 ∧ (S1 && S2) = false then 1 else 0))))) := by
    by_cases a1 : x.kind < 0
    · exact .inl ⟨by simpa using a1, by rw [HD.out, if_pos (.inl a1)]⟩
    by_cases a2 : 6 < x.kind
    · exact .inr (.inl ⟨by simpa using a1, by simpa using a2, by rw [HD.out, if_pos (.inr (.inl a2))]⟩)
    by_cases a3 : x.policy < 0
    · exact .inr (.inr (.inl ⟨by simpa using a1, by simpa using a2, by simpa using a3, by rw [HD.out, if_pos (.inr (.inr (.inl a3)))]⟩))
    by_cases a4 : 2 < x.policy
    · exact .inr (.inr (.inr (.inl ⟨by simpa using a1, by simpa using a2, by simpa using a3, by simpa using a4, by rw [HD.out, if_pos (.inr (.inr (.inr a4)))]⟩)))
    have b : ¬ (x.kind < 0 ∨ 6 < x.kind ∨ x.policy < 0 ∨ 2 < x.policy) := by omega
    refine .inr (.inr (.inr (.inr ⟨by simpa using a1, by simpa using a2, by simpa using a3, by simpa using a4, ?_⟩)))
    by_cases a5 : x.policy = 0
    · by_cases a6 : x.kind = 5
      · exact .inl ⟨by simpa using a5, by simpa using a6, by rw [HD.out, if_neg b, if_pos ⟨a5, .inl a6⟩]⟩
      by_cases a7 : x.kind = 6
      · exact .inr (.inl ⟨by simpa using a5, by simpa using a6, by simpa using a7, by rw [HD.out, if_neg b, if_pos ⟨a5, .inr a7⟩]⟩)
      · exact .inr (.inr (.inl ⟨by simpa using a5, by simpa using a6, by simpa using a7, hide (HP.out b (by omega))⟩))
    · exact .inr (.inr (.inr ⟨by simpa using a5, hide (HP.out b (by omega))⟩))
  clear HD HP
  simp only [chkCells] at HCC HCD ⊢
  rcases hA with ⟨d1, rfl⟩ | ⟨d1, d2, rfl⟩ | ⟨d1, d2, d3, rfl⟩ | ⟨d1, d2, d3, d4, rfl⟩ | ⟨d1, d2, d3, d4, ⟨d5, d6, rfl⟩ | ⟨d5, d6, d7, rfl⟩ | ⟨d5, d6, d7, HPT⟩ | ⟨d5, HPT⟩⟩
  · go_enter Tryz.func33, Tryz.ntmps33
    go_wp2_with fail
    obtain ⟨W1, hW1⟩ : ∃ W, W = w.alloc (.cells #[.string x.name, .string x.table, .int .i64 x.kind, .slice A n c, .string x.other, .slice A' n' c', .int .i64 x.low, .int .i64 x.high, .slice A'' n'' c'', .int .i64 x.ln, .int .i64 x.ld, .int .i64 x.mn, .int .i64 x.md, .int .i64 x.policy] 27) := ⟨_, rfl⟩
    obtain ⟨hbW1, SZW1, g0, g1, g2, g3, g4, g5, g6, g7, g8, g9, g10, g11, g12, g13⟩ := boxed14 hW1 rfl
    rw [← hW1]
    clear hW1
    have LST1 := hide hbW1
    have SG1 := hide hbW1
    clear hbW1
    have LR := lt_of_cell g0
    go_wp2
    all_goals (try (exfalso; go_light; simp_all; done))
    go_ret
    exact ⟨rfl, SG1.out⟩
  · go_enter Tryz.func33, Tryz.ntmps33
    go_wp2_with fail
    obtain ⟨W1, hW1⟩ : ∃ W, W = w.alloc (.cells #[.string x.name, .string x.table, .int .i64 x.kind, .slice A n c, .string x.other, .slice A' n' c', .int .i64 x.low, .int .i64 x.high, .slice A'' n'' c'', .int .i64 x.ln, .int .i64 x.ld, .int .i64 x.mn, .int .i64 x.md, .int .i64 x.policy] 27) := ⟨_, rfl⟩
    obtain ⟨hbW1, SZW1, g0, g1, g2, g3, g4, g5, g6, g7, g8, g9, g10, g11, g12, g13⟩ := boxed14 hW1 rfl
    rw [← hW1]
    clear hW1
    have LST2 := hide hbW1
    have SG2 := hide hbW1
    clear hbW1
    have LR := lt_of_cell g0
    go_wp2
    all_goals (try (exfalso; go_light; simp_all; done))
    go_ret
    exact ⟨rfl, SG2.out⟩
  · go_enter Tryz.func33, Tryz.ntmps33
    go_wp2_with fail
    obtain ⟨W1, hW1⟩ : ∃ W, W = w.alloc (.cells #[.string x.name, .string x.table, .int .i64 x.kind, .slice A n c, .string x.other, .slice A' n' c', .int .i64 x.low, .int .i64 x.high, .slice A'' n'' c'', .int .i64 x.ln, .int .i64 x.ld, .int .i64 x.mn, .int .i64 x.md, .int .i64 x.policy] 27) := ⟨_, rfl⟩
    obtain ⟨hbW1, SZW1, g0, g1, g2, g3, g4, g5, g6, g7, g8, g9, g10, g11, g12, g13⟩ := boxed14 hW1 rfl
    rw [← hW1]
    clear hW1
    have LST3 := hide hbW1
    have SG3 := hide hbW1
    clear hbW1
    have LR := lt_of_cell g0
    go_wp2
    all_goals (try (exfalso; go_light; simp_all; done))
    go_ret
    exact ⟨rfl, SG3.out⟩
  · go_enter Tryz.func33, Tryz.ntmps33
    go_wp2_with fail
    obtain ⟨W1, hW1⟩ : ∃ W, W = w.alloc (.cells #[.string x.name, .string x.table, .int .i64 x.kind, .slice A n c, .string x.other, .slice A' n' c', .int .i64 x.low, .int .i64 x.high, .slice A'' n'' c'', .int .i64 x.ln, .int .i64 x.ld, .int .i64 x.mn, .int .i64 x.md, .int .i64 x.policy] 27) := ⟨_, rfl⟩
    obtain ⟨hbW1, SZW1, g0, g1, g2, g3, g4, g5, g6, g7, g8, g9, g10, g11, g12, g13⟩ := boxed14 hW1 rfl
    rw [← hW1]
    clear hW1
    have LST4 := hide hbW1
    have SG4 := hide hbW1
    clear hbW1
    have LR := lt_of_cell g0
    go_wp2
    all_goals (try (exfalso; go_light; simp_all; done))
    go_ret
    exact ⟨rfl, SG4.out⟩
  · go_enter Tryz.func33, Tryz.ntmps33
    go_wp2_with fail
    obtain ⟨W1, hW1⟩ : ∃ W, W = w.alloc (.cells #[.string x.name, .string x.table, .int .i64 x.kind, .slice A n c, .string x.other, .slice A' n' c', .int .i64 x.low, .int .i64 x.high, .slice A'' n'' c'', .int .i64 x.ln, .int .i64 x.ld, .int .i64 x.mn, .int .i64 x.md, .int .i64 x.policy] 27) := ⟨_, rfl⟩
    obtain ⟨hbW1, SZW1, g0, g1, g2, g3, g4, g5, g6, g7, g8, g9, g10, g11, g12, g13⟩ := boxed14 hW1 rfl
    rw [← hW1]
    clear hW1
    have LST5 := hide hbW1
    have SG5 := hide hbW1
    clear hbW1
    have LR := lt_of_cell g0
    go_wp2
    all_goals (try (exfalso; go_light; simp_all; done))
    go_ret
    exact ⟨rfl, SG5.out⟩
  · go_enter Tryz.func33, Tryz.ntmps33
    go_wp2_with fail
    obtain ⟨W1, hW1⟩ : ∃ W, W = w.alloc (.cells #[.string x.name, .string x.table, .int .i64 x.kind, .slice A n c, .string x.other, .slice A' n' c', .int .i64 x.low, .int .i64 x.high, .slice A'' n'' c'', .int .i64 x.ln, .int .i64 x.ld, .int .i64 x.mn, .int .i64 x.md, .int .i64 x.policy] 27) := ⟨_, rfl⟩
    obtain ⟨hbW1, SZW1, g0, g1, g2, g3, g4, g5, g6, g7, g8, g9, g10, g11, g12, g13⟩ := boxed14 hW1 rfl
    rw [← hW1]
    clear hW1
    have LST6 := hide hbW1
    have SG6 := hide hbW1
    clear hbW1
    have LR := lt_of_cell g0
    go_wp2
    all_goals (try (exfalso; go_light; simp_all; done))
    go_ret
    exact ⟨rfl, SG6.out⟩
  · go_enter Tryz.func33, Tryz.ntmps33
    have HN := hide hn
    clear hn
    have HN2 := hide hn'
    clear hn'
    have HQ := hide hq
    clear hq
    have HW := hide hw
    clear hw
    have HC := hide hc
    clear hc
    have HO := hide ho
    clear ho
    have HZ := hide hz
    clear hz
    go_wp2_with fail
    obtain ⟨W1, hW1⟩ : ∃ W, W = w.alloc (.cells #[.string x.name, .string x.table, .int .i64 x.kind, .slice A n c, .string x.other, .slice A' n' c', .int .i64 x.low, .int .i64 x.high, .slice A'' n'' c'', .int .i64 x.ln, .int .i64 x.ld, .int .i64 x.mn, .int .i64 x.md, .int .i64 x.policy] 27) := ⟨_, rfl⟩
    obtain ⟨hbW1, SZW1, g0, g1, g2, g3, g4, g5, g6, g7, g8, g9, g10, g11, g12, g13⟩ := boxed14 hW1 rfl
    rw [← hW1]
    clear hW1
    have HN := hide (HN.out.below hbW1)
    have HN2 := hide (HN2.out.below hbW1)
    have HQ := hide (HQ.out.below hbW1)
    have HW := hide (HW.out.below hbW1)
    have HC := hide (HC.out.below hbW1)
    have HO := hide (HO.out.below hbW1)
    have HZ := hide (HZ.out.below hbW1)
    have LST7 := hide hbW1
    have SG7 := hide hbW1
    clear hbW1
    have LR := lt_of_cell g0
    go_wp2_with fail
    refine (cols_any _ A1 n1 c1 cols HC.out).mono ?_
    rintro e w8 ⟨rfl, hb8⟩
    have HN := hide (HN.out.below hb8)
    have HN2 := hide (HN2.out.below hb8)
    have HQ := hide (HQ.out.below hb8)
    have HW := hide (HW.out.below hb8)
    have HC := hide (HC.out.below hb8)
    have HO := hide (HO.out.below hb8)
    have HZ := hide (HZ.out.below hb8)
    have g0 := bat hb8 LR g0
    have g1 := bat hb8 LR g1
    have g2 := bat hb8 LR g2
    have g3 := bat hb8 LR g3
    have g4 := bat hb8 LR g4
    have g5 := bat hb8 LR g5
    have g6 := bat hb8 LR g6
    have g7 := bat hb8 LR g7
    have g8 := bat hb8 LR g8
    have g9 := bat hb8 LR g9
    have g10 := bat hb8 LR g10
    have g11 := bat hb8 LR g11
    have g12 := bat hb8 LR g12
    have g13 := bat hb8 LR g13
    have LR := lt_of_cell g0
    have LST9 := hide hb8
    have SG9 := hide (below_trans SG7.out hb8)
    clear hb8
    rw [HCE.out]
    by_cases hce : CE = 0
    rotate_left
    · have q0 : (CE != 0) = true := by simpa using hce
      obtain rfl : R = CE := by rw [HPT.out, if_pos hce]
      go_wp2
      all_goals (try (exfalso; go_light; simp_all; done))
      go_ret
      exact ⟨rfl, SG9.out⟩
    subst hce
    go_wp2_with fail
    refine (HUC.out _).mono ?_
    rintro e w10 ⟨rfl, hb10⟩
    have HN := hide (HN.out.below hb10)
    have HN2 := hide (HN2.out.below hb10)
    have HQ := hide (HQ.out.below hb10)
    have HW := hide (HW.out.below hb10)
    have HC := hide (HC.out.below hb10)
    have HO := hide (HO.out.below hb10)
    have HZ := hide (HZ.out.below hb10)
    have g0 := bat hb10 LR g0
    have g1 := bat hb10 LR g1
    have g2 := bat hb10 LR g2
    have g3 := bat hb10 LR g3
    have g4 := bat hb10 LR g4
    have g5 := bat hb10 LR g5
    have g6 := bat hb10 LR g6
    have g7 := bat hb10 LR g7
    have g8 := bat hb10 LR g8
    have g9 := bat hb10 LR g9
    have g10 := bat hb10 LR g10
    have g11 := bat hb10 LR g11
    have g12 := bat hb10 LR g12
    have g13 := bat hb10 LR g13
    have LR := lt_of_cell g0
    have LST11 := hide hb10
    have SG11 := hide (below_trans SG9.out hb10)
    clear hb10
    cases UC
    · go_wp2_with fail
      refine (HCC.out _ HN.out HN2.out HC.out HO.out).mono ?_
      rintro e w12 ⟨rfl, hb12⟩
      have HN := hide (HN.out.below hb12)
      have HN2 := hide (HN2.out.below hb12)
      have HQ := hide (HQ.out.below hb12)
      have HW := hide (HW.out.below hb12)
      have HC := hide (HC.out.below hb12)
      have HO := hide (HO.out.below hb12)
      have HZ := hide (HZ.out.below hb12)
      have g0 := bat hb12 LR g0
      have g1 := bat hb12 LR g1
      have g2 := bat hb12 LR g2
      have g3 := bat hb12 LR g3
      have g4 := bat hb12 LR g4
      have g5 := bat hb12 LR g5
      have g6 := bat hb12 LR g6
      have g7 := bat hb12 LR g7
      have g8 := bat hb12 LR g8
      have g9 := bat hb12 LR g9
      have g10 := bat hb12 LR g10
      have g11 := bat hb12 LR g11
      have g12 := bat hb12 LR g12
      have g13 := bat hb12 LR g13
      have LR := lt_of_cell g0
      have LST13 := hide hb12
      have SG13 := hide (below_trans SG11.out hb12)
      clear hb12
      obtain rfl : R = CK := by rw [HPT.out]; simp
      go_wp2
      all_goals (try (exfalso; go_light; simp_all; done))
      go_ret
      exact ⟨rfl, SG13.out⟩
    go_wp2_with fail
    refine (HCD.out _ HQ.out HW.out HC.out HZ.out).mono ?_
    rintro e w14 ⟨rfl, hb14⟩
    have HN := hide (HN.out.below hb14)
    have HN2 := hide (HN2.out.below hb14)
    have HQ := hide (HQ.out.below hb14)
    have HW := hide (HW.out.below hb14)
    have HC := hide (HC.out.below hb14)
    have HO := hide (HO.out.below hb14)
    have HZ := hide (HZ.out.below hb14)
    have g0 := bat hb14 LR g0
    have g1 := bat hb14 LR g1
    have g2 := bat hb14 LR g2
    have g3 := bat hb14 LR g3
    have g4 := bat hb14 LR g4
    have g5 := bat hb14 LR g5
    have g6 := bat hb14 LR g6
    have g7 := bat hb14 LR g7
    have g8 := bat hb14 LR g8
    have g9 := bat hb14 LR g9
    have g10 := bat hb14 LR g10
    have g11 := bat hb14 LR g11
    have g12 := bat hb14 LR g12
    have g13 := bat hb14 LR g13
    have LR := lt_of_cell g0
    have LST15 := hide hb14
    have SG15 := hide (below_trans SG11.out hb14)
    clear hb14
    by_cases hcd : CD = 0
    rotate_left
    · have q0 : (CD != 0) = true := by simpa using hcd
      obtain rfl : R = CD := by rw [HPT.out]; simp [hcd]
      go_wp2
      all_goals (try (exfalso; go_light; simp_all; done))
      go_ret
      exact ⟨rfl, SG15.out⟩
    subst hcd
    by_cases hk5 : x.kind = 5
    rotate_left
    · have q5 : (x.kind == 5) = false := by simpa using hk5
      obtain rfl : R = 0 := by rw [HPT.out]; simp [hk5]
      go_wp2
      all_goals (try (exfalso; go_light; simp_all; done))
      go_ret
      exact ⟨rfl, SG15.out⟩
    rw [hk5] at d6
    exact absurd d6 (by decide)
  · go_enter Tryz.func33, Tryz.ntmps33
    have HN := hide hn
    clear hn
    have HN2 := hide hn'
    clear hn'
    have HQ := hide hq
    clear hq
    have HW := hide hw
    clear hw
    have HC := hide hc
    clear hc
    have HO := hide ho
    clear ho
    have HZ := hide hz
    clear hz
    go_wp2_with fail
    obtain ⟨W1, hW1⟩ : ∃ W, W = w.alloc (.cells #[.string x.name, .string x.table, .int .i64 x.kind, .slice A n c, .string x.other, .slice A' n' c', .int .i64 x.low, .int .i64 x.high, .slice A'' n'' c'', .int .i64 x.ln, .int .i64 x.ld, .int .i64 x.mn, .int .i64 x.md, .int .i64 x.policy] 27) := ⟨_, rfl⟩
    obtain ⟨hbW1, SZW1, g0, g1, g2, g3, g4, g5, g6, g7, g8, g9, g10, g11, g12, g13⟩ := boxed14 hW1 rfl
    rw [← hW1]
    clear hW1
    have HN := hide (HN.out.below hbW1)
    have HN2 := hide (HN2.out.below hbW1)
    have HQ := hide (HQ.out.below hbW1)
    have HW := hide (HW.out.below hbW1)
    have HC := hide (HC.out.below hbW1)
    have HO := hide (HO.out.below hbW1)
    have HZ := hide (HZ.out.below hbW1)
    have LST16 := hide hbW1
    have SG16 := hide hbW1
    clear hbW1
    have LR := lt_of_cell g0
    go_wp2_with fail
    refine (cols_any _ A1 n1 c1 cols HC.out).mono ?_
    rintro e w17 ⟨rfl, hb17⟩
    have HN := hide (HN.out.below hb17)
    have HN2 := hide (HN2.out.below hb17)
    have HQ := hide (HQ.out.below hb17)
    have HW := hide (HW.out.below hb17)
    have HC := hide (HC.out.below hb17)
    have HO := hide (HO.out.below hb17)
    have HZ := hide (HZ.out.below hb17)
    have g0 := bat hb17 LR g0
    have g1 := bat hb17 LR g1
    have g2 := bat hb17 LR g2
    have g3 := bat hb17 LR g3
    have g4 := bat hb17 LR g4
    have g5 := bat hb17 LR g5
    have g6 := bat hb17 LR g6
    have g7 := bat hb17 LR g7
    have g8 := bat hb17 LR g8
    have g9 := bat hb17 LR g9
    have g10 := bat hb17 LR g10
    have g11 := bat hb17 LR g11
    have g12 := bat hb17 LR g12
    have g13 := bat hb17 LR g13
    have LR := lt_of_cell g0
    have LST18 := hide hb17
    have SG18 := hide (below_trans SG16.out hb17)
    clear hb17
    rw [HCE.out]
    by_cases hce : CE = 0
    rotate_left
    · have q0 : (CE != 0) = true := by simpa using hce
      obtain rfl : R = CE := by rw [HPT.out, if_pos hce]
      go_wp2
      all_goals (try (exfalso; go_light; simp_all; done))
      go_ret
      exact ⟨rfl, SG18.out⟩
    subst hce
    go_wp2_with fail
    refine (HUC.out _).mono ?_
    rintro e w19 ⟨rfl, hb19⟩
    have HN := hide (HN.out.below hb19)
    have HN2 := hide (HN2.out.below hb19)
    have HQ := hide (HQ.out.below hb19)
    have HW := hide (HW.out.below hb19)
    have HC := hide (HC.out.below hb19)
    have HO := hide (HO.out.below hb19)
    have HZ := hide (HZ.out.below hb19)
    have g0 := bat hb19 LR g0
    have g1 := bat hb19 LR g1
    have g2 := bat hb19 LR g2
    have g3 := bat hb19 LR g3
    have g4 := bat hb19 LR g4
    have g5 := bat hb19 LR g5
    have g6 := bat hb19 LR g6
    have g7 := bat hb19 LR g7
    have g8 := bat hb19 LR g8
    have g9 := bat hb19 LR g9
    have g10 := bat hb19 LR g10
    have g11 := bat hb19 LR g11
    have g12 := bat hb19 LR g12
    have g13 := bat hb19 LR g13
    have LR := lt_of_cell g0
    have LST20 := hide hb19
    have SG20 := hide (below_trans SG18.out hb19)
    clear hb19
    cases UC
    · go_wp2_with fail
      refine (HCC.out _ HN.out HN2.out HC.out HO.out).mono ?_
      rintro e w21 ⟨rfl, hb21⟩
      have HN := hide (HN.out.below hb21)
      have HN2 := hide (HN2.out.below hb21)
      have HQ := hide (HQ.out.below hb21)
      have HW := hide (HW.out.below hb21)
      have HC := hide (HC.out.below hb21)
      have HO := hide (HO.out.below hb21)
      have HZ := hide (HZ.out.below hb21)
      have g0 := bat hb21 LR g0
      have g1 := bat hb21 LR g1
      have g2 := bat hb21 LR g2
      have g3 := bat hb21 LR g3
      have g4 := bat hb21 LR g4
      have g5 := bat hb21 LR g5
      have g6 := bat hb21 LR g6
      have g7 := bat hb21 LR g7
      have g8 := bat hb21 LR g8
      have g9 := bat hb21 LR g9
      have g10 := bat hb21 LR g10
      have g11 := bat hb21 LR g11
      have g12 := bat hb21 LR g12
      have g13 := bat hb21 LR g13
      have LR := lt_of_cell g0
      have LST22 := hide hb21
      have SG22 := hide (below_trans SG20.out hb21)
      clear hb21
      obtain rfl : R = CK := by rw [HPT.out]; simp
      go_wp2
      all_goals (try (exfalso; go_light; simp_all; done))
      go_ret
      exact ⟨rfl, SG22.out⟩
    go_wp2_with fail
    refine (HCD.out _ HQ.out HW.out HC.out HZ.out).mono ?_
    rintro e w23 ⟨rfl, hb23⟩
    have HN := hide (HN.out.below hb23)
    have HN2 := hide (HN2.out.below hb23)
    have HQ := hide (HQ.out.below hb23)
    have HW := hide (HW.out.below hb23)
    have HC := hide (HC.out.below hb23)
    have HO := hide (HO.out.below hb23)
    have HZ := hide (HZ.out.below hb23)
    have g0 := bat hb23 LR g0
    have g1 := bat hb23 LR g1
    have g2 := bat hb23 LR g2
    have g3 := bat hb23 LR g3
    have g4 := bat hb23 LR g4
    have g5 := bat hb23 LR g5
    have g6 := bat hb23 LR g6
    have g7 := bat hb23 LR g7
    have g8 := bat hb23 LR g8
    have g9 := bat hb23 LR g9
    have g10 := bat hb23 LR g10
    have g11 := bat hb23 LR g11
    have g12 := bat hb23 LR g12
    have g13 := bat hb23 LR g13
    have LR := lt_of_cell g0
    have LST24 := hide hb23
    have SG24 := hide (below_trans SG20.out hb23)
    clear hb23
    by_cases hcd : CD = 0
    rotate_left
    · have q0 : (CD != 0) = true := by simpa using hcd
      obtain rfl : R = CD := by rw [HPT.out]; simp [hcd]
      go_wp2
      all_goals (try (exfalso; go_light; simp_all; done))
      go_ret
      exact ⟨rfl, SG24.out⟩
    subst hcd
    by_cases hk5 : x.kind = 5
    rotate_left
    · have q5 : (x.kind == 5) = false := by simpa using hk5
      obtain rfl : R = 0 := by rw [HPT.out]; simp [hk5]
      go_wp2
      all_goals (try (exfalso; go_light; simp_all; done))
      go_ret
      exact ⟨rfl, SG24.out⟩
    have HK5 := hide hk5
    have q5 : (x.kind == 5) = true := by simpa using hk5
    clear hk5
    go_wp2_with fail
    refine (HS1.out _).mono ?_
    rintro e w25 ⟨rfl, hb25⟩
    have HN := hide (HN.out.below hb25)
    have HN2 := hide (HN2.out.below hb25)
    have HQ := hide (HQ.out.below hb25)
    have HW := hide (HW.out.below hb25)
    have HC := hide (HC.out.below hb25)
    have HO := hide (HO.out.below hb25)
    have HZ := hide (HZ.out.below hb25)
    have g0 := bat hb25 LR g0
    have g1 := bat hb25 LR g1
    have g2 := bat hb25 LR g2
    have g3 := bat hb25 LR g3
    have g4 := bat hb25 LR g4
    have g5 := bat hb25 LR g5
    have g6 := bat hb25 LR g6
    have g7 := bat hb25 LR g7
    have g8 := bat hb25 LR g8
    have g9 := bat hb25 LR g9
    have g10 := bat hb25 LR g10
    have g11 := bat hb25 LR g11
    have g12 := bat hb25 LR g12
    have g13 := bat hb25 LR g13
    have LR := lt_of_cell g0
    have LST26 := hide hb25
    have SG26 := hide (below_trans SG24.out hb25)
    clear hb25
    cases S1
    · obtain rfl : R = 1 := by rw [HPT.out]; simp [HK5.out]
      go_wp2
      all_goals (try (exfalso; go_light; simp_all; done))
      go_ret
      exact ⟨rfl, SG26.out⟩
    go_wp2_with fail
    refine (HS2.out _).mono ?_
    rintro e w27 ⟨rfl, hb27⟩
    have HN := hide (HN.out.below hb27)
    have HN2 := hide (HN2.out.below hb27)
    have HQ := hide (HQ.out.below hb27)
    have HW := hide (HW.out.below hb27)
    have HC := hide (HC.out.below hb27)
    have HO := hide (HO.out.below hb27)
    have HZ := hide (HZ.out.below hb27)
    have g0 := bat hb27 LR g0
    have g1 := bat hb27 LR g1
    have g2 := bat hb27 LR g2
    have g3 := bat hb27 LR g3
    have g4 := bat hb27 LR g4
    have g5 := bat hb27 LR g5
    have g6 := bat hb27 LR g6
    have g7 := bat hb27 LR g7
    have g8 := bat hb27 LR g8
    have g9 := bat hb27 LR g9
    have g10 := bat hb27 LR g10
    have g11 := bat hb27 LR g11
    have g12 := bat hb27 LR g12
    have g13 := bat hb27 LR g13
    have LR := lt_of_cell g0
    have LST28 := hide hb27
    have SG28 := hide (below_trans SG26.out hb27)
    clear hb27
    cases S2
    · obtain rfl : R = 1 := by rw [HPT.out]; simp [HK5.out]
      go_wp2
      all_goals (try (exfalso; go_light; simp_all; done))
      go_ret
      exact ⟨rfl, SG28.out⟩
    · obtain rfl : R = 0 := by rw [HPT.out]; simp
      go_wp2
      all_goals (try (exfalso; go_light; simp_all; done))
      go_ret
      exact ⟨rfl, SG28.out⟩
set_option maxHeartbeats 4000000 in
set_option maxRecDepth 100000 in
theorem checkAll_any (w : World) (x : Chk) (A : Option Addr) (n c : Nat) (hn : In w A n c x.cols) (A' : Option Addr) (n' c' : Nat) (hn' : In w A' n' c' x.ocols) (A'' : Option Addr) (n'' c'' : Nat) (hq : In w A'' n'' c'' x.cond) (hw : Words w)
    (rn : ByteArray) (A1 : Option Addr) (n1 c1 : Nat) (cols : List Col) (hc : In w A1 n1 c1 cols) (Ak : Option Addr) (nk ck : Nat) (A3 : Option Addr) (n3 c3 : Nat) (rows : List Ent) (hr : In w A3 n3 c3 rows)
    (on : ByteArray) (A2 : Option Addr) (n2 c2 : Nat) (ocols : List Col) (ho : In w A2 n2 c2 ocols) (Al : Option Addr) (nl cl : Nat) (A4 : Option Addr) (n4 c4 : Nat) (orows : List Ent) (hor : In w A4 n4 c4 orows) (A5 : Option Addr) (n5 c5 : Nat) (zs : List Zone) (hz : In w A5 n5 c5 zs) (hb0 : n ≤ 4096) (hb1 : n' ≤ 4096) (hb2 : n1 ≤ 4096) (hb3 : n2 ≤ 4096) :
    Calls Tryz.prog 78 #[.agg (chkCells x A n c A' n' c' A'' n'' c'').toArray, .agg #[.string rn, .slice A1 n1 c1, .slice Ak nk ck, .slice A3 n3 c3], .agg #[.string on, .slice A2 n2 c2, .slice Al nl cl, .slice A4 n4 c4], .slice A5 n5 c5] w
      fun e w' => e = .returned (.int .i64 (allErr x cols ocols rows orows zs)) ∧ Below w.heap.size w w' := by
  have HV := hide fun W hn hn' hq hw hc ho hz => chkValidate_any W x A n c hn A' n' c' hn' A'' n'' c'' hq hw A1 n1 c1 cols hc A2 n2 c2 ocols ho A5 n5 c5 zs hz hb0 hb1 hb2 hb3
  have HU := hide fun W => usesO_any W x.kind
  have HT1 := hide fun W hc hr => checkRows_chk W rn A1 n1 c1 cols hc Ak nk ck A3 n3 c3 rows hr
  have HT2 := hide fun W hc hr => checkRows_chk W on A2 n2 c2 ocols hc Al nl cl A4 n4 c4 orows hr
  have HD := hide (show allErr x cols ocols rows orows zs = if chkErr x cols ocols zs ≠ 0 then chkErr x cols ocols zs else if tabErr cols rows ≠ 0 then tabErr cols rows else if usesO x.kind = true then tabErr ocols orows else 0 from rfl)
  obtain ⟨R, hR⟩ : ∃ R, allErr x cols ocols rows orows zs = R := ⟨_, rfl⟩
  obtain ⟨E1, hE1⟩ : ∃ R, chkErr x cols ocols zs = R := ⟨_, rfl⟩
  obtain ⟨E2, hE2⟩ : ∃ R, tabErr cols rows = R := ⟨_, rfl⟩
  obtain ⟨E3, hE3⟩ : ∃ R, tabErr ocols orows = R := ⟨_, rfl⟩
  obtain ⟨U, hU⟩ : ∃ R, usesO x.kind = R := ⟨_, rfl⟩
  rw [hR, hE1, hE2, hE3, hU] at HD
  rw [hE1] at HV
  rw [hE2] at HT1
  rw [hE3] at HT2
  rw [hU] at HU
  rw [hR]
  clear hR hE1 hE2 hE3 hU
  simp only [chkCells] at HV ⊢
  go_enter Tryz.func78, Tryz.ntmps78
  have HN := hide hn
  clear hn
  have HN2 := hide hn'
  clear hn'
  have HQ := hide hq
  clear hq
  have HW := hide hw
  clear hw
  have HC := hide hc
  clear hc
  have HO := hide ho
  clear ho
  have HZ := hide hz
  clear hz
  have HR := hide hr
  clear hr
  have HOR := hide hor
  clear hor
  go_wp2_with fail
  obtain ⟨W1, hW1⟩ : ∃ W, W = w.alloc (.cells #[.string x.name, .string x.table, .int .i64 x.kind, .slice A n c, .string x.other, .slice A' n' c', .int .i64 x.low, .int .i64 x.high, .slice A'' n'' c'', .int .i64 x.ln, .int .i64 x.ld, .int .i64 x.mn, .int .i64 x.md, .int .i64 x.policy] 27) := ⟨_, rfl⟩
  obtain ⟨hbW1, SZW1, g0, g1, g2, g3, g4, g5, g6, g7, g8, g9, g10, g11, g12, g13⟩ := boxed14 hW1 rfl
  rw [← hW1]
  clear hW1
  have HN := hide (HN.out.below hbW1)
  have HN2 := hide (HN2.out.below hbW1)
  have HQ := hide (HQ.out.below hbW1)
  have HW := hide (HW.out.below hbW1)
  have HC := hide (HC.out.below hbW1)
  have HO := hide (HO.out.below hbW1)
  have HZ := hide (HZ.out.below hbW1)
  have HR := hide (HR.out.below hbW1)
  have HOR := hide (HOR.out.below hbW1)
  have LST29 := hide hbW1
  have SG29 := hide hbW1
  clear hbW1
  have LR := lt_of_cell g0
  obtain ⟨W2, hW2⟩ : ∃ W, W = W1.alloc (.cells #[.string rn, .slice A1 n1 c1, .slice Ak nk ck, .slice A3 n3 c3] 32) := ⟨_, rfl⟩
  obtain ⟨hbW2, SZW2, r0, r1, r2, r3⟩ := boxed4 (b := w.heap.size + 1) hW2 (by rw [SZW1.out])
  rw [← hW2]
  clear hW2
  have HN := hide (HN.out.below hbW2)
  have HN2 := hide (HN2.out.below hbW2)
  have HQ := hide (HQ.out.below hbW2)
  have HW := hide (HW.out.below hbW2)
  have HC := hide (HC.out.below hbW2)
  have HO := hide (HO.out.below hbW2)
  have HZ := hide (HZ.out.below hbW2)
  have HR := hide (HR.out.below hbW2)
  have HOR := hide (HOR.out.below hbW2)
  have g0 := bat hbW2 LR g0
  have g1 := bat hbW2 LR g1
  have g2 := bat hbW2 LR g2
  have g3 := bat hbW2 LR g3
  have g4 := bat hbW2 LR g4
  have g5 := bat hbW2 LR g5
  have g6 := bat hbW2 LR g6
  have g7 := bat hbW2 LR g7
  have g8 := bat hbW2 LR g8
  have g9 := bat hbW2 LR g9
  have g10 := bat hbW2 LR g10
  have g11 := bat hbW2 LR g11
  have g12 := bat hbW2 LR g12
  have g13 := bat hbW2 LR g13
  have LR := lt_of_cell g0
  have LST30 := hide hbW2
  have SG30 := hide (below_trans SG29.out hbW2)
  clear hbW2
  have L2 := lt_of_cell r0
  obtain ⟨W3, hW3⟩ : ∃ W, W = W2.alloc (.cells #[.string on, .slice A2 n2 c2, .slice Al nl cl, .slice A4 n4 c4] 32) := ⟨_, rfl⟩
  obtain ⟨hbW3, SZW3, s0, s1, s2, s3⟩ := boxed4 (b := w.heap.size + 1 + 1) hW3 (by rw [SZW2.out, SZW1.out])
  rw [← hW3]
  clear hW3
  have HN := hide (HN.out.below hbW3)
  have HN2 := hide (HN2.out.below hbW3)
  have HQ := hide (HQ.out.below hbW3)
  have HW := hide (HW.out.below hbW3)
  have HC := hide (HC.out.below hbW3)
  have HO := hide (HO.out.below hbW3)
  have HZ := hide (HZ.out.below hbW3)
  have HR := hide (HR.out.below hbW3)
  have HOR := hide (HOR.out.below hbW3)
  have g0 := bat hbW3 LR g0
  have g1 := bat hbW3 LR g1
  have g2 := bat hbW3 LR g2
  have g3 := bat hbW3 LR g3
  have g4 := bat hbW3 LR g4
  have g5 := bat hbW3 LR g5
  have g6 := bat hbW3 LR g6
  have g7 := bat hbW3 LR g7
  have g8 := bat hbW3 LR g8
  have g9 := bat hbW3 LR g9
  have g10 := bat hbW3 LR g10
  have g11 := bat hbW3 LR g11
  have g12 := bat hbW3 LR g12
  have g13 := bat hbW3 LR g13
  have LR := lt_of_cell g0
  have r0 := bat hbW3 L2 r0
  have r1 := bat hbW3 L2 r1
  have r2 := bat hbW3 L2 r2
  have r3 := bat hbW3 L2 r3
  have L2 := lt_of_cell r0
  have LST31 := hide hbW3
  have SG31 := hide (below_trans SG30.out hbW3)
  clear hbW3
  have L3 := lt_of_cell s0
  go_wp2_with fail
  refine (HV.out _ HN.out HN2.out HQ.out HW.out HC.out HO.out HZ.out).mono ?_
  rintro e w32 ⟨rfl, hb32⟩
  have HN := hide (HN.out.below hb32)
  have HN2 := hide (HN2.out.below hb32)
  have HQ := hide (HQ.out.below hb32)
  have HW := hide (HW.out.below hb32)
  have HC := hide (HC.out.below hb32)
  have HO := hide (HO.out.below hb32)
  have HZ := hide (HZ.out.below hb32)
  have HR := hide (HR.out.below hb32)
  have HOR := hide (HOR.out.below hb32)
  have g0 := bat hb32 LR g0
  have g1 := bat hb32 LR g1
  have g2 := bat hb32 LR g2
  have g3 := bat hb32 LR g3
  have g4 := bat hb32 LR g4
  have g5 := bat hb32 LR g5
  have g6 := bat hb32 LR g6
  have g7 := bat hb32 LR g7
  have g8 := bat hb32 LR g8
  have g9 := bat hb32 LR g9
  have g10 := bat hb32 LR g10
  have g11 := bat hb32 LR g11
  have g12 := bat hb32 LR g12
  have g13 := bat hb32 LR g13
  have LR := lt_of_cell g0
  have r0 := bat hb32 L2 r0
  have r1 := bat hb32 L2 r1
  have r2 := bat hb32 L2 r2
  have r3 := bat hb32 L2 r3
  have L2 := lt_of_cell r0
  have s0 := bat hb32 L3 s0
  have s1 := bat hb32 L3 s1
  have s2 := bat hb32 L3 s2
  have s3 := bat hb32 L3 s3
  have L3 := lt_of_cell s0
  have LST33 := hide hb32
  have SG33 := hide (below_trans SG31.out hb32)
  clear hb32
  by_cases h1 : E1 = 0
  rotate_left
  · have q1 : (E1 == 0) = false := by simpa using h1
    obtain rfl : R = E1 := by rw [HD.out, if_pos h1]
    go_wp2
    all_goals (try (exfalso; go_light; simp_all; done))
    go_ret
    exact ⟨rfl, SG33.out⟩
  subst h1
  go_wp2_with fail
  refine (HT1.out _ HC.out HR.out).mono ?_
  rintro e w34 ⟨rfl, hb34⟩
  have HN := hide (HN.out.below hb34)
  have HN2 := hide (HN2.out.below hb34)
  have HQ := hide (HQ.out.below hb34)
  have HW := hide (HW.out.below hb34)
  have HC := hide (HC.out.below hb34)
  have HO := hide (HO.out.below hb34)
  have HZ := hide (HZ.out.below hb34)
  have HR := hide (HR.out.below hb34)
  have HOR := hide (HOR.out.below hb34)
  have g0 := bat hb34 LR g0
  have g1 := bat hb34 LR g1
  have g2 := bat hb34 LR g2
  have g3 := bat hb34 LR g3
  have g4 := bat hb34 LR g4
  have g5 := bat hb34 LR g5
  have g6 := bat hb34 LR g6
  have g7 := bat hb34 LR g7
  have g8 := bat hb34 LR g8
  have g9 := bat hb34 LR g9
  have g10 := bat hb34 LR g10
  have g11 := bat hb34 LR g11
  have g12 := bat hb34 LR g12
  have g13 := bat hb34 LR g13
  have LR := lt_of_cell g0
  have r0 := bat hb34 L2 r0
  have r1 := bat hb34 L2 r1
  have r2 := bat hb34 L2 r2
  have r3 := bat hb34 L2 r3
  have L2 := lt_of_cell r0
  have s0 := bat hb34 L3 s0
  have s1 := bat hb34 L3 s1
  have s2 := bat hb34 L3 s2
  have s3 := bat hb34 L3 s3
  have L3 := lt_of_cell s0
  have LST35 := hide hb34
  have SG35 := hide (below_trans SG33.out hb34)
  clear hb34
  by_cases h2 : E2 = 0
  rotate_left
  · have q2 : (E2 == 0) = false := by simpa using h2
    obtain rfl : R = E2 := by rw [HD.out]; simp [h2]
    go_wp2
    all_goals (try (exfalso; go_light; simp_all; done))
    go_ret
    exact ⟨rfl, SG35.out⟩
  subst h2
  go_wp2_with fail
  refine (HU.out _).mono ?_
  rintro e w36 ⟨rfl, hb36⟩
  have HN := hide (HN.out.below hb36)
  have HN2 := hide (HN2.out.below hb36)
  have HQ := hide (HQ.out.below hb36)
  have HW := hide (HW.out.below hb36)
  have HC := hide (HC.out.below hb36)
  have HO := hide (HO.out.below hb36)
  have HZ := hide (HZ.out.below hb36)
  have HR := hide (HR.out.below hb36)
  have HOR := hide (HOR.out.below hb36)
  have g0 := bat hb36 LR g0
  have g1 := bat hb36 LR g1
  have g2 := bat hb36 LR g2
  have g3 := bat hb36 LR g3
  have g4 := bat hb36 LR g4
  have g5 := bat hb36 LR g5
  have g6 := bat hb36 LR g6
  have g7 := bat hb36 LR g7
  have g8 := bat hb36 LR g8
  have g9 := bat hb36 LR g9
  have g10 := bat hb36 LR g10
  have g11 := bat hb36 LR g11
  have g12 := bat hb36 LR g12
  have g13 := bat hb36 LR g13
  have LR := lt_of_cell g0
  have r0 := bat hb36 L2 r0
  have r1 := bat hb36 L2 r1
  have r2 := bat hb36 L2 r2
  have r3 := bat hb36 L2 r3
  have L2 := lt_of_cell r0
  have s0 := bat hb36 L3 s0
  have s1 := bat hb36 L3 s1
  have s2 := bat hb36 L3 s2
  have s3 := bat hb36 L3 s3
  have L3 := lt_of_cell s0
  have LST37 := hide hb36
  have SG37 := hide (below_trans SG35.out hb36)
  clear hb36
  cases U
  · obtain rfl : R = 0 := by rw [HD.out]; simp
    go_wp2
    all_goals (try (exfalso; go_light; simp_all; done))
    go_ret
    exact ⟨rfl, SG37.out⟩
  · obtain rfl : R = E3 := by rw [HD.out]; simp
    go_wp2_with fail
    refine (HT2.out _ HO.out HOR.out).mono ?_
    rintro e w38 ⟨rfl, hb38⟩
    have HN := hide (HN.out.below hb38)
    have HN2 := hide (HN2.out.below hb38)
    have HQ := hide (HQ.out.below hb38)
    have HW := hide (HW.out.below hb38)
    have HC := hide (HC.out.below hb38)
    have HO := hide (HO.out.below hb38)
    have HZ := hide (HZ.out.below hb38)
    have HR := hide (HR.out.below hb38)
    have HOR := hide (HOR.out.below hb38)
    have g0 := bat hb38 LR g0
    have g1 := bat hb38 LR g1
    have g2 := bat hb38 LR g2
    have g3 := bat hb38 LR g3
    have g4 := bat hb38 LR g4
    have g5 := bat hb38 LR g5
    have g6 := bat hb38 LR g6
    have g7 := bat hb38 LR g7
    have g8 := bat hb38 LR g8
    have g9 := bat hb38 LR g9
    have g10 := bat hb38 LR g10
    have g11 := bat hb38 LR g11
    have g12 := bat hb38 LR g12
    have g13 := bat hb38 LR g13
    have LR := lt_of_cell g0
    have r0 := bat hb38 L2 r0
    have r1 := bat hb38 L2 r1
    have r2 := bat hb38 L2 r2
    have r3 := bat hb38 L2 r3
    have L2 := lt_of_cell r0
    have s0 := bat hb38 L3 s0
    have s1 := bat hb38 L3 s1
    have s2 := bat hb38 L3 s2
    have s3 := bat hb38 L3 s3
    have L3 := lt_of_cell s0
    have LST39 := hide hb38
    have SG39 := hide (below_trans SG37.out hb38)
    clear hb38
    go_wp2
    all_goals (try (exfalso; go_light; simp_all; done))
    go_ret
    exact ⟨rfl, SG39.out⟩
end Go.Proofs.YtodapiholjeehaaGreatDoor
