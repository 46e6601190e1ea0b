/-
  check.Validate, check.checkAll. (Printed by gen_chka.py.)
-/
import Derived.Test.YtggejcekmehocaaGreatDoorChkV
namespace Go.Proofs.YtggejcekmehocaaGreatDoor
open Go.RowKit
set_option linter.unusedSimpArgs false
set_option linter.unusedVariables false
theorem chkErr_parts (x : Chk) (cols ocols : List Col) (zs : List Zone) (h1 : ¬ (x.kind < 0 ∨ 6 < x.kind ∨ x.policy < 0 ∨ 2 < x.policy)) (h2 : ¬ (x.policy = 0 ∧ (x.kind = 5 ∨ x.kind = 6))) :
    chkErr x cols ocols zs = if colsErr cols ≠ 0 then colsErr cols else if usesC x.kind = false then chkCols x cols ocols else if chkCond x cols zs ≠ 0 then chkCond x cols zs else if x.kind = 5 ∧ (ratioOk x.ln x.ld && ratioOk x.mn x.md) = false then 1 else 0 := by
  rw [chkErr, if_neg h1, if_neg h2]
set_option maxHeartbeats 4000000 in
set_option maxRecDepth 100000 in
theorem chkValidate_any (w : World) (x : Chk) (A : Option Addr) (n c : Nat) (hn : In w A n c x.cols) (A' : Option Addr) (n' c' : Nat) (hn' : In w A' n' c' x.ocols) (A'' : Option Addr) (n'' c'' : Nat) (hq : In w A'' n'' c'' x.cond) (hw : Words w)
    (A1 : Option Addr) (n1 c1 : Nat) (cols : List Col) (hc : In w A1 n1 c1 cols) (A2 : Option Addr) (n2 c2 : Nat) (ocols : List Col) (ho : In w A2 n2 c2 ocols) (A5 : Option Addr) (n5 c5 : Nat) (zs : List Zone) (hz : In w A5 n5 c5 zs) (hb0 : n ≤ 4096) (hb1 : n' ≤ 4096) (hb2 : n1 ≤ 4096) (hb3 : n2 ≤ 4096) :
    Calls Tryz.prog 90 #[.agg (chkCells x A n c A' n' c' A'' n'' c'').toArray, .slice A1 n1 c1, .slice A2 n2 c2, .slice A5 n5 c5] w fun e w' => e = .returned (.int .i64 (chkErr x cols ocols zs)) ∧ Below w.heap.size w w' := by
  have HCC := hide fun W hn hn' hc ho => checkColumns_any W x A n c hn A' n' c' hn' A'' n'' c'' A1 n1 c1 cols hc A2 n2 c2 ocols ho hb0 hb1 hb2 hb3
  have HCD := hide fun W hq hw hc hz => checkCond_any W x A n c A' n' c' A'' n'' c'' hq hw A1 n1 c1 cols hc A5 n5 c5 zs hz
  have HUC := hide fun W => usesC_any W x.kind
  have HS1 := hide fun W => share_any W x.ln x.ld
  have HS2 := hide fun W => share_any W x.mn x.md
  have HP := hide (chkErr_parts x cols ocols zs)
  have HD := hide (show chkErr x cols ocols zs = if x.kind < 0 ∨ 6 < x.kind ∨ x.policy < 0 ∨ 2 < x.policy then 1 else if x.policy = 0 ∧ (x.kind = 5 ∨ x.kind = 6) then 7 else chkErr x cols ocols zs from by
    by_cases h1 : x.kind < 0 ∨ 6 < x.kind ∨ x.policy < 0 ∨ 2 < x.policy
    · rw [if_pos h1, chkErr, if_pos h1]
    · rw [if_neg h1]
      by_cases h2 : x.policy = 0 ∧ (x.kind = 5 ∨ x.kind = 6)
      · rw [if_pos h2, chkErr, if_neg h1, if_pos h2]
      · rw [if_neg h2])
  obtain ⟨R, hR⟩ : ∃ R, chkErr x cols ocols zs = R := ⟨_, rfl⟩
  rw [hR] at HD HP
  rw [hR]
  obtain ⟨CE, hCE⟩ : ∃ C, colsErr cols = C := ⟨_, rfl⟩
  obtain ⟨CK, hCK⟩ : ∃ C, chkCols x cols ocols = C := ⟨_, rfl⟩
  obtain ⟨CD, hCD⟩ : ∃ C, chkCond x cols zs = C := ⟨_, rfl⟩
  obtain ⟨UC, hUC⟩ : ∃ U, usesC x.kind = U := ⟨_, rfl⟩
  obtain ⟨S1, hS1⟩ : ∃ S, ratioOk x.ln x.ld = S := ⟨_, rfl⟩
  obtain ⟨S2, hS2⟩ : ∃ S, ratioOk x.mn x.md = S := ⟨_, rfl⟩
  rw [hCE, hCK, hCD, hUC, hS1, hS2] at HP
  rw [hCK] at HCC
  rw [hCD] at HCD
  rw [hUC] at HUC
  rw [hS1] at HS1
  rw [hS2] at HS2
  have HCE := hide hCE
  clear hR hCE hCK hCD hUC hS1 hS2
  have hA : (decide (x.kind < 0) = true ∧ R = 1) ∨ (decide (x.kind < 0) = false ∧ decide (6 < x.kind) = true ∧ R = 1) ∨ (decide (x.kind < 0) = false ∧ decide (6 < x.kind) = false ∧ decide (x.policy < 0) = true ∧ R = 1)
      ∨ (decide (x.kind < 0) = false ∧ decide (6 < x.kind) = false ∧ decide (x.policy < 0) = false ∧ decide (2 < x.policy) = true ∧ R = 1)
      ∨ (decide (x.kind < 0) = false ∧ decide (6 < x.kind) = false ∧ decide (x.policy < 0) = false ∧ decide (2 < x.policy) = false ∧ ((((x.policy == 0) = true ∧ (x.kind == 5) = true ∧ R = 7) ∨ ((x.policy == 0) = true ∧ (x.kind == 5) = false ∧ (x.kind == 6) = true ∧ R = 7)
        ∨ ((x.policy == 0) = true ∧ (x.kind == 5) = false ∧ (x.kind == 6) = false ∧ Hid (R = if CE ≠ 0 then CE else if UC = false then CK else if CD ≠ 0 then CD else if x.kind = 5 ∧ (S1 && S2) = false then 1 else 0)) ∨ ((x.policy == 0) = false ∧ Hid (R = if CE ≠ 0 then CE else if UC = false then CK else if CD ≠ 0 then CD else if x.kind = 5 ∧ (S1 && S2) = false then 1 else 0))))) := by
    by_cases a1 : x.kind < 0
    · exact .inl ⟨by simpa using a1, by rw [HD.out, if_pos (.inl a1)]⟩
    by_cases a2 : 6 < x.kind
    · exact .inr (.inl ⟨by simpa using a1, by simpa using a2, by rw [HD.out, if_pos (.inr (.inl a2))]⟩)
    by_cases a3 : x.policy < 0
    · exact .inr (.inr (.inl ⟨by simpa using a1, by simpa using a2, by simpa using a3, by rw [HD.out, if_pos (.inr (.inr (.inl a3)))]⟩))
    by_cases a4 : 2 < x.policy
    · exact .inr (.inr (.inr (.inl ⟨by simpa using a1, by simpa using a2, by simpa using a3, by simpa using a4, by rw [HD.out, if_pos (.inr (.inr (.inr a4)))]⟩)))
    have b : ¬ (x.kind < 0 ∨ 6 < x.kind ∨ x.policy < 0 ∨ 2 < x.policy) := by omega
    refine .inr (.inr (.inr (.inr ⟨by simpa using a1, by simpa using a2, by simpa using a3, by simpa using a4, ?_⟩)))
    by_cases a5 : x.policy = 0
    · by_cases a6 : x.kind = 5
      · exact .inl ⟨by simpa using a5, by simpa using a6, by rw [HD.out, if_neg b, if_pos ⟨a5, .inl a6⟩]⟩
      by_cases a7 : x.kind = 6
      · exact .inr (.inl ⟨by simpa using a5, by simpa using a6, by simpa using a7, by rw [HD.out, if_neg b, if_pos ⟨a5, .inr a7⟩]⟩)
      · exact .inr (.inr (.inl ⟨by simpa using a5, by simpa using a6, by simpa using a7, hide (HP.out b (by omega))⟩))
    · exact .inr (.inr (.inr ⟨by simpa using a5, hide (HP.out b (by omega))⟩))
  clear HD HP
  simp only [chkCells] at HCC HCD ⊢
  rcases hA with ⟨d1, rfl⟩ | ⟨d1, d2, rfl⟩ | ⟨d1, d2, d3, rfl⟩ | ⟨d1, d2, d3, d4, rfl⟩ | ⟨d1, d2, d3, d4, ⟨d5, d6, rfl⟩ | ⟨d5, d6, d7, rfl⟩ | ⟨d5, d6, d7, HPT⟩ | ⟨d5, HPT⟩⟩
  · go_enter Tryz.func90, Tryz.ntmps90
    go_wp2_with fail
    obtain ⟨W1, hW1⟩ : ∃ W, W = w.alloc (.cells #[.string x.name, .string x.table, .int .i64 x.kind, .slice A n c, .string x.other, .slice A' n' c', .int .i64 x.low, .int .i64 x.high, .slice A'' n'' c'', .int .i64 x.ln, .int .i64 x.ld, .int .i64 x.mn, .int .i64 x.md, .int .i64 x.policy] 27) := ⟨_, rfl⟩
    obtain ⟨hbW1, SZW1, g0, g1, g2, g3, g4, g5, g6, g7, g8, g9, g10, g11, g12, g13⟩ := boxed14 hW1 rfl
    rw [← hW1]
    clear hW1
    have SG1 := hide hbW1
    clear hbW1
    have LR := lt_of_cell g0
    go_wp2
    all_goals (try (exfalso; go_light; simp_all; done))
    go_ret
    exact ⟨rfl, SG1.out⟩
  · go_enter Tryz.func90, Tryz.ntmps90
    go_wp2_with fail
    obtain ⟨W1, hW1⟩ : ∃ W, W = w.alloc (.cells #[.string x.name, .string x.table, .int .i64 x.kind, .slice A n c, .string x.other, .slice A' n' c', .int .i64 x.low, .int .i64 x.high, .slice A'' n'' c'', .int .i64 x.ln, .int .i64 x.ld, .int .i64 x.mn, .int .i64 x.md, .int .i64 x.policy] 27) := ⟨_, rfl⟩
    obtain ⟨hbW1, SZW1, g0, g1, g2, g3, g4, g5, g6, g7, g8, g9, g10, g11, g12, g13⟩ := boxed14 hW1 rfl
    rw [← hW1]
    clear hW1
    have SG2 := hide hbW1
    clear hbW1
    have LR := lt_of_cell g0
    go_wp2
    all_goals (try (exfalso; go_light; simp_all; done))
    go_ret
    exact ⟨rfl, SG2.out⟩
  · go_enter Tryz.func90, Tryz.ntmps90
    go_wp2_with fail
    obtain ⟨W1, hW1⟩ : ∃ W, W = w.alloc (.cells #[.string x.name, .string x.table, .int .i64 x.kind, .slice A n c, .string x.other, .slice A' n' c', .int .i64 x.low, .int .i64 x.high, .slice A'' n'' c'', .int .i64 x.ln, .int .i64 x.ld, .int .i64 x.mn, .int .i64 x.md, .int .i64 x.policy] 27) := ⟨_, rfl⟩
    obtain ⟨hbW1, SZW1, g0, g1, g2, g3, g4, g5, g6, g7, g8, g9, g10, g11, g12, g13⟩ := boxed14 hW1 rfl
    rw [← hW1]
    clear hW1
    have SG3 := hide hbW1
    clear hbW1
    have LR := lt_of_cell g0
    go_wp2
    all_goals (try (exfalso; go_light; simp_all; done))
    go_ret
    exact ⟨rfl, SG3.out⟩
  · go_enter Tryz.func90, Tryz.ntmps90
    go_wp2_with fail
    obtain ⟨W1, hW1⟩ : ∃ W, W = w.alloc (.cells #[.string x.name, .string x.table, .int .i64 x.kind, .slice A n c, .string x.other, .slice A' n' c', .int .i64 x.low, .int .i64 x.high, .slice A'' n'' c'', .int .i64 x.ln, .int .i64 x.ld, .int .i64 x.mn, .int .i64 x.md, .int .i64 x.policy] 27) := ⟨_, rfl⟩
    obtain ⟨hbW1, SZW1, g0, g1, g2, g3, g4, g5, g6, g7, g8, g9, g10, g11, g12, g13⟩ := boxed14 hW1 rfl
    rw [← hW1]
    clear hW1
    have SG4 := hide hbW1
    clear hbW1
    have LR := lt_of_cell g0
    go_wp2
    all_goals (try (exfalso; go_light; simp_all; done))
    go_ret
    exact ⟨rfl, SG4.out⟩
  · go_enter Tryz.func90, Tryz.ntmps90
    go_wp2_with fail
    obtain ⟨W1, hW1⟩ : ∃ W, W = w.alloc (.cells #[.string x.name, .string x.table, .int .i64 x.kind, .slice A n c, .string x.other, .slice A' n' c', .int .i64 x.low, .int .i64 x.high, .slice A'' n'' c'', .int .i64 x.ln, .int .i64 x.ld, .int .i64 x.mn, .int .i64 x.md, .int .i64 x.policy] 27) := ⟨_, rfl⟩
    obtain ⟨hbW1, SZW1, g0, g1, g2, g3, g4, g5, g6, g7, g8, g9, g10, g11, g12, g13⟩ := boxed14 hW1 rfl
    rw [← hW1]
    clear hW1
    have SG5 := hide hbW1
    clear hbW1
    have LR := lt_of_cell g0
    go_wp2
    all_goals (try (exfalso; go_light; simp_all; done))
    go_ret
    exact ⟨rfl, SG5.out⟩
  · go_enter Tryz.func90, Tryz.ntmps90
    go_wp2_with fail
    obtain ⟨W1, hW1⟩ : ∃ W, W = w.alloc (.cells #[.string x.name, .string x.table, .int .i64 x.kind, .slice A n c, .string x.other, .slice A' n' c', .int .i64 x.low, .int .i64 x.high, .slice A'' n'' c'', .int .i64 x.ln, .int .i64 x.ld, .int .i64 x.mn, .int .i64 x.md, .int .i64 x.policy] 27) := ⟨_, rfl⟩
    obtain ⟨hbW1, SZW1, g0, g1, g2, g3, g4, g5, g6, g7, g8, g9, g10, g11, g12, g13⟩ := boxed14 hW1 rfl
    rw [← hW1]
    clear hW1
    have SG6 := hide hbW1
    clear hbW1
    have LR := lt_of_cell g0
    go_wp2
    all_goals (try (exfalso; go_light; simp_all; done))
    go_ret
    exact ⟨rfl, SG6.out⟩
  · go_enter Tryz.func90, Tryz.ntmps90
    have HN := hide hn
    clear hn
    have HN2 := hide hn'
    clear hn'
    have HQ := hide hq
    clear hq
    have HW := hide hw
    clear hw
    have HC := hide hc
    clear hc
    have HO := hide ho
    clear ho
    have HZ := hide hz
    clear hz
    go_wp2_with fail
    obtain ⟨W1, hW1⟩ : ∃ W, W = w.alloc (.cells #[.string x.name, .string x.table, .int .i64 x.kind, .slice A n c, .string x.other, .slice A' n' c', .int .i64 x.low, .int .i64 x.high, .slice A'' n'' c'', .int .i64 x.ln, .int .i64 x.ld, .int .i64 x.mn, .int .i64 x.md, .int .i64 x.policy] 27) := ⟨_, rfl⟩
    obtain ⟨hbW1, SZW1, g0, g1, g2, g3, g4, g5, g6, g7, g8, g9, g10, g11, g12, g13⟩ := boxed14 hW1 rfl
    rw [← hW1]
    clear hW1
    have HN := hide (HN.out.below hbW1)
    have HN2 := hide (HN2.out.below hbW1)
    have HQ := hide (HQ.out.below hbW1)
    have HW := hide (HW.out.below hbW1)
    have HC := hide (HC.out.below hbW1)
    have HO := hide (HO.out.below hbW1)
    have HZ := hide (HZ.out.below hbW1)
    have SG7 := hide hbW1
    clear hbW1
    have LR := lt_of_cell g0
    go_wp2_with fail
    refine (cols_any _ A1 n1 c1 cols HC.out).mono ?_
    rintro e w8 ⟨rfl, hb8⟩
    have HN := hide (HN.out.below hb8)
    have HN2 := hide (HN2.out.below hb8)
    have HQ := hide (HQ.out.below hb8)
    have HW := hide (HW.out.below hb8)
    have HC := hide (HC.out.below hb8)
    have HO := hide (HO.out.below hb8)
    have HZ := hide (HZ.out.below hb8)
    obtain ⟨g0, g1, g2, g3, g4, g5, g6, g7, g8, g9, g10, g11, g12, g13, LR⟩ := bats14 hb8 LR g0 g1 g2 g3 g4 g5 g6 g7 g8 g9 g10 g11 g12 g13
    have SG9 := hide (below_trans SG7.out hb8)
    clear hb8
    rw [HCE.out]
    by_cases hce : CE = 0
    rotate_left
    · have q0 : (CE != 0) = true := by simpa using hce
      obtain rfl : R = CE := by rw [HPT.out, if_pos hce]
      go_wp2
      all_goals (try (exfalso; go_light; simp_all; done))
      go_ret
      exact ⟨rfl, SG9.out⟩
    subst hce
    go_wp2_with fail
    refine (HUC.out _).mono ?_
    rintro e w10 ⟨rfl, hb10⟩
    have HN := hide (HN.out.below hb10)
    have HN2 := hide (HN2.out.below hb10)
    have HQ := hide (HQ.out.below hb10)
    have HW := hide (HW.out.below hb10)
    have HC := hide (HC.out.below hb10)
    have HO := hide (HO.out.below hb10)
    have HZ := hide (HZ.out.below hb10)
    obtain ⟨g0, g1, g2, g3, g4, g5, g6, g7, g8, g9, g10, g11, g12, g13, LR⟩ := bats14 hb10 LR g0 g1 g2 g3 g4 g5 g6 g7 g8 g9 g10 g11 g12 g13
    have SG11 := hide (below_trans SG9.out hb10)
    clear hb10
    cases UC
    · go_wp2_with fail
      refine (HCC.out _ HN.out HN2.out HC.out HO.out).mono ?_
      rintro e w12 ⟨rfl, hb12⟩
      obtain ⟨g0, g1, g2, g3, g4, g5, g6, g7, g8, g9, g10, g11, g12, g13, LR⟩ := bats14 hb12 LR g0 g1 g2 g3 g4 g5 g6 g7 g8 g9 g10 g11 g12 g13
      have SG13 := hide (below_trans SG11.out hb12)
      clear hb12
      obtain rfl : R = CK := by rw [HPT.out]; simp
      go_wp2
      all_goals (try (exfalso; go_light; simp_all; done))
      go_ret
      exact ⟨rfl, SG13.out⟩
    go_wp2_with fail
    refine (HCD.out _ HQ.out HW.out HC.out HZ.out).mono ?_
    rintro e w14 ⟨rfl, hb14⟩
    obtain ⟨g0, g1, g2, g3, g4, g5, g6, g7, g8, g9, g10, g11, g12, g13, LR⟩ := bats14 hb14 LR g0 g1 g2 g3 g4 g5 g6 g7 g8 g9 g10 g11 g12 g13
    have SG15 := hide (below_trans SG11.out hb14)
    clear hb14
    by_cases hcd : CD = 0
    rotate_left
    · have q0 : (CD != 0) = true := by simpa using hcd
      obtain rfl : R = CD := by rw [HPT.out]; simp [hcd]
      go_wp2
      all_goals (try (exfalso; go_light; simp_all; done))
      go_ret
      exact ⟨rfl, SG15.out⟩
    subst hcd
    by_cases hk5 : x.kind = 5
    rotate_left
    · have q5 : (x.kind == 5) = false := by simpa using hk5
      obtain rfl : R = 0 := by rw [HPT.out]; simp [hk5]
      go_wp2
      all_goals (try (exfalso; go_light; simp_all; done))
      go_ret
      exact ⟨rfl, SG15.out⟩
    rw [hk5] at d6
    exact absurd d6 (by decide)
  · go_enter Tryz.func90, Tryz.ntmps90
    have HN := hide hn
    clear hn
    have HN2 := hide hn'
    clear hn'
    have HQ := hide hq
    clear hq
    have HW := hide hw
    clear hw
    have HC := hide hc
    clear hc
    have HO := hide ho
    clear ho
    have HZ := hide hz
    clear hz
    go_wp2_with fail
    obtain ⟨W1, hW1⟩ : ∃ W, W = w.alloc (.cells #[.string x.name, .string x.table, .int .i64 x.kind, .slice A n c, .string x.other, .slice A' n' c', .int .i64 x.low, .int .i64 x.high, .slice A'' n'' c'', .int .i64 x.ln, .int .i64 x.ld, .int .i64 x.mn, .int .i64 x.md, .int .i64 x.policy] 27) := ⟨_, rfl⟩
    obtain ⟨hbW1, SZW1, g0, g1, g2, g3, g4, g5, g6, g7, g8, g9, g10, g11, g12, g13⟩ := boxed14 hW1 rfl
    rw [← hW1]
    clear hW1
    have HN := hide (HN.out.below hbW1)
    have HN2 := hide (HN2.out.below hbW1)
    have HQ := hide (HQ.out.below hbW1)
    have HW := hide (HW.out.below hbW1)
    have HC := hide (HC.out.below hbW1)
    have HO := hide (HO.out.below hbW1)
    have HZ := hide (HZ.out.below hbW1)
    have SG16 := hide hbW1
    clear hbW1
    have LR := lt_of_cell g0
    go_wp2_with fail
    refine (cols_any _ A1 n1 c1 cols HC.out).mono ?_
    rintro e w17 ⟨rfl, hb17⟩
    have HN := hide (HN.out.below hb17)
    have HN2 := hide (HN2.out.below hb17)
    have HQ := hide (HQ.out.below hb17)
    have HW := hide (HW.out.below hb17)
    have HC := hide (HC.out.below hb17)
    have HO := hide (HO.out.below hb17)
    have HZ := hide (HZ.out.below hb17)
    obtain ⟨g0, g1, g2, g3, g4, g5, g6, g7, g8, g9, g10, g11, g12, g13, LR⟩ := bats14 hb17 LR g0 g1 g2 g3 g4 g5 g6 g7 g8 g9 g10 g11 g12 g13
    have SG18 := hide (below_trans SG16.out hb17)
    clear hb17
    rw [HCE.out]
    by_cases hce : CE = 0
    rotate_left
    · have q0 : (CE != 0) = true := by simpa using hce
      obtain rfl : R = CE := by rw [HPT.out, if_pos hce]
      go_wp2
      all_goals (try (exfalso; go_light; simp_all; done))
      go_ret
      exact ⟨rfl, SG18.out⟩
    subst hce
    go_wp2_with fail
    refine (HUC.out _).mono ?_
    rintro e w19 ⟨rfl, hb19⟩
    have HN := hide (HN.out.below hb19)
    have HN2 := hide (HN2.out.below hb19)
    have HQ := hide (HQ.out.below hb19)
    have HW := hide (HW.out.below hb19)
    have HC := hide (HC.out.below hb19)
    have HO := hide (HO.out.below hb19)
    have HZ := hide (HZ.out.below hb19)
    obtain ⟨g0, g1, g2, g3, g4, g5, g6, g7, g8, g9, g10, g11, g12, g13, LR⟩ := bats14 hb19 LR g0 g1 g2 g3 g4 g5 g6 g7 g8 g9 g10 g11 g12 g13
    have SG20 := hide (below_trans SG18.out hb19)
    clear hb19
    cases UC
    · go_wp2_with fail
      refine (HCC.out _ HN.out HN2.out HC.out HO.out).mono ?_
      rintro e w21 ⟨rfl, hb21⟩
      obtain ⟨g0, g1, g2, g3, g4, g5, g6, g7, g8, g9, g10, g11, g12, g13, LR⟩ := bats14 hb21 LR g0 g1 g2 g3 g4 g5 g6 g7 g8 g9 g10 g11 g12 g13
      have SG22 := hide (below_trans SG20.out hb21)
      clear hb21
      obtain rfl : R = CK := by rw [HPT.out]; simp
      go_wp2
      all_goals (try (exfalso; go_light; simp_all; done))
      go_ret
      exact ⟨rfl, SG22.out⟩
    go_wp2_with fail
    refine (HCD.out _ HQ.out HW.out HC.out HZ.out).mono ?_
    rintro e w23 ⟨rfl, hb23⟩
    obtain ⟨g0, g1, g2, g3, g4, g5, g6, g7, g8, g9, g10, g11, g12, g13, LR⟩ := bats14 hb23 LR g0 g1 g2 g3 g4 g5 g6 g7 g8 g9 g10 g11 g12 g13
    have SG24 := hide (below_trans SG20.out hb23)
    clear hb23
    by_cases hcd : CD = 0
    rotate_left
    · have q0 : (CD != 0) = true := by simpa using hcd
      obtain rfl : R = CD := by rw [HPT.out]; simp [hcd]
      go_wp2
      all_goals (try (exfalso; go_light; simp_all; done))
      go_ret
      exact ⟨rfl, SG24.out⟩
    subst hcd
    by_cases hk5 : x.kind = 5
    rotate_left
    · have q5 : (x.kind == 5) = false := by simpa using hk5
      obtain rfl : R = 0 := by rw [HPT.out]; simp [hk5]
      go_wp2
      all_goals (try (exfalso; go_light; simp_all; done))
      go_ret
      exact ⟨rfl, SG24.out⟩
    have HK5 := hide hk5
    have q5 : (x.kind == 5) = true := by simpa using hk5
    clear hk5
    go_wp2_with fail
    refine (HS1.out _).mono ?_
    rintro e w25 ⟨rfl, hb25⟩
    obtain ⟨g0, g1, g2, g3, g4, g5, g6, g7, g8, g9, g10, g11, g12, g13, LR⟩ := bats14 hb25 LR g0 g1 g2 g3 g4 g5 g6 g7 g8 g9 g10 g11 g12 g13
    have SG26 := hide (below_trans SG24.out hb25)
    clear hb25
    cases S1
    · obtain rfl : R = 1 := by rw [HPT.out]; simp [HK5.out]
      go_wp2
      all_goals (try (exfalso; go_light; simp_all; done))
      go_ret
      exact ⟨rfl, SG26.out⟩
    go_wp2_with fail
    refine (HS2.out _).mono ?_
    rintro e w27 ⟨rfl, hb27⟩
    obtain ⟨g0, g1, g2, g3, g4, g5, g6, g7, g8, g9, g10, g11, g12, g13, LR⟩ := bats14 hb27 LR g0 g1 g2 g3 g4 g5 g6 g7 g8 g9 g10 g11 g12 g13
    have SG28 := hide (below_trans SG26.out hb27)
    clear hb27
    cases S2
    · obtain rfl : R = 1 := by rw [HPT.out]; simp [HK5.out]
      go_wp2
      all_goals (try (exfalso; go_light; simp_all; done))
      go_ret
      exact ⟨rfl, SG28.out⟩
    · obtain rfl : R = 0 := by rw [HPT.out]; simp
      go_wp2
      all_goals (try (exfalso; go_light; simp_all; done))
      go_ret
      exact ⟨rfl, SG28.out⟩
set_option maxHeartbeats 4000000 in
set_option maxRecDepth 100000 in
theorem checkAll_any (w : World) (x : Chk) (A : Option Addr) (n c : Nat) (hn : In w A n c x.cols) (A' : Option Addr) (n' c' : Nat) (hn' : In w A' n' c' x.ocols) (A'' : Option Addr) (n'' c'' : Nat) (hq : In w A'' n'' c'' x.cond) (hw : Words w)
    (rn : ByteArray) (A1 : Option Addr) (n1 c1 : Nat) (cols : List Col) (hc : In w A1 n1 c1 cols) (Ak : Option Addr) (nk ck : Nat) (A3 : Option Addr) (n3 c3 : Nat) (rows : List Ent) (hr : In w A3 n3 c3 rows)
    (on : ByteArray) (A2 : Option Addr) (n2 c2 : Nat) (ocols : List Col) (ho : In w A2 n2 c2 ocols) (Al : Option Addr) (nl cl : Nat) (A4 : Option Addr) (n4 c4 : Nat) (orows : List Ent) (hor : In w A4 n4 c4 orows) (A5 : Option Addr) (n5 c5 : Nat) (zs : List Zone) (hz : In w A5 n5 c5 zs) (hb0 : n ≤ 4096) (hb1 : n' ≤ 4096) (hb2 : n1 ≤ 4096) (hb3 : n2 ≤ 4096) :
    Calls Tryz.prog 61 #[.agg (chkCells x A n c A' n' c' A'' n'' c'').toArray, .agg #[.string rn, .slice A1 n1 c1, .slice Ak nk ck, .slice A3 n3 c3], .agg #[.string on, .slice A2 n2 c2, .slice Al nl cl, .slice A4 n4 c4], .slice A5 n5 c5] w
      fun e w' => e = .returned (.int .i64 (allErr x cols ocols rows orows zs)) ∧ Below w.heap.size w w' := by
  have HV := hide fun W hn hn' hq hw hc ho hz => chkValidate_any W x A n c hn A' n' c' hn' A'' n'' c'' hq hw A1 n1 c1 cols hc A2 n2 c2 ocols ho A5 n5 c5 zs hz hb0 hb1 hb2 hb3
  have HU := hide fun W => usesO_any W x.kind
  have HT1 := hide fun W hc hr => checkRows_chk W rn A1 n1 c1 cols hc Ak nk ck A3 n3 c3 rows hr
  have HT2 := hide fun W hc hr => checkRows_chk W on A2 n2 c2 ocols hc Al nl cl A4 n4 c4 orows hr
  have HD := hide (show allErr x cols ocols rows orows zs = if chkErr x cols ocols zs ≠ 0 then chkErr x cols ocols zs else if tabErr cols rows ≠ 0 then tabErr cols rows else if usesO x.kind = true then tabErr ocols orows else 0 from rfl)
  obtain ⟨R, hR⟩ : ∃ R, allErr x cols ocols rows orows zs = R := ⟨_, rfl⟩
  obtain ⟨E1, hE1⟩ : ∃ R, chkErr x cols ocols zs = R := ⟨_, rfl⟩
  obtain ⟨E2, hE2⟩ : ∃ R, tabErr cols rows = R := ⟨_, rfl⟩
  obtain ⟨E3, hE3⟩ : ∃ R, tabErr ocols orows = R := ⟨_, rfl⟩
  obtain ⟨U, hU⟩ : ∃ R, usesO x.kind = R := ⟨_, rfl⟩
  rw [hR, hE1, hE2, hE3, hU] at HD
  rw [hE1] at HV
  rw [hE2] at HT1
  rw [hE3] at HT2
  rw [hU] at HU
  rw [hR]
  clear hR hE1 hE2 hE3 hU
  simp only [chkCells] at HV ⊢
  go_enter Tryz.func61, Tryz.ntmps61
  have HN := hide hn
  clear hn
  have HN2 := hide hn'
  clear hn'
  have HQ := hide hq
  clear hq
  have HW := hide hw
  clear hw
  have HC := hide hc
  clear hc
  have HO := hide ho
  clear ho
  have HZ := hide hz
  clear hz
  have HR := hide hr
  clear hr
  have HOR := hide hor
  clear hor
  go_wp2_with fail
  obtain ⟨W1, hW1⟩ : ∃ W, W = w.alloc (.cells #[.string x.name, .string x.table, .int .i64 x.kind, .slice A n c, .string x.other, .slice A' n' c', .int .i64 x.low, .int .i64 x.high, .slice A'' n'' c'', .int .i64 x.ln, .int .i64 x.ld, .int .i64 x.mn, .int .i64 x.md, .int .i64 x.policy] 27) := ⟨_, rfl⟩
  obtain ⟨hbW1, SZW1, g0, g1, g2, g3, g4, g5, g6, g7, g8, g9, g10, g11, g12, g13⟩ := boxed14 hW1 rfl
  rw [← hW1]
  clear hW1
  have HN := hide (HN.out.below hbW1)
  have HN2 := hide (HN2.out.below hbW1)
  have HQ := hide (HQ.out.below hbW1)
  have HW := hide (HW.out.below hbW1)
  have HC := hide (HC.out.below hbW1)
  have HO := hide (HO.out.below hbW1)
  have HZ := hide (HZ.out.below hbW1)
  have HR := hide (HR.out.below hbW1)
  have HOR := hide (HOR.out.below hbW1)
  have SG29 := hide hbW1
  clear hbW1
  have LR := lt_of_cell g0
  obtain ⟨W2, hW2⟩ : ∃ W, W = W1.alloc (.cells #[.string rn, .slice A1 n1 c1, .slice Ak nk ck, .slice A3 n3 c3] 32) := ⟨_, rfl⟩
  obtain ⟨hbW2, SZW2, r0, r1, r2, r3⟩ := boxed4 (b := w.heap.size + 1) hW2 (by rw [SZW1.out])
  rw [← hW2]
  clear hW2
  have HN := hide (HN.out.below hbW2)
  have HN2 := hide (HN2.out.below hbW2)
  have HQ := hide (HQ.out.below hbW2)
  have HW := hide (HW.out.below hbW2)
  have HC := hide (HC.out.below hbW2)
  have HO := hide (HO.out.below hbW2)
  have HZ := hide (HZ.out.below hbW2)
  have HR := hide (HR.out.below hbW2)
  have HOR := hide (HOR.out.below hbW2)
  obtain ⟨g0, g1, g2, g3, g4, g5, g6, g7, g8, g9, g10, g11, g12, g13, LR⟩ := bats14 hbW2 LR g0 g1 g2 g3 g4 g5 g6 g7 g8 g9 g10 g11 g12 g13
  have SG30 := hide (below_trans SG29.out hbW2)
  clear hbW2
  have L2 := lt_of_cell r0
  obtain ⟨W3, hW3⟩ : ∃ W, W = W2.alloc (.cells #[.string on, .slice A2 n2 c2, .slice Al nl cl, .slice A4 n4 c4] 32) := ⟨_, rfl⟩
  obtain ⟨hbW3, SZW3, s0, s1, s2, s3⟩ := boxed4 (b := w.heap.size + 1 + 1) hW3 (by rw [SZW2.out, SZW1.out])
  rw [← hW3]
  clear hW3
  have HN := hide (HN.out.below hbW3)
  have HN2 := hide (HN2.out.below hbW3)
  have HQ := hide (HQ.out.below hbW3)
  have HW := hide (HW.out.below hbW3)
  have HC := hide (HC.out.below hbW3)
  have HO := hide (HO.out.below hbW3)
  have HZ := hide (HZ.out.below hbW3)
  have HR := hide (HR.out.below hbW3)
  have HOR := hide (HOR.out.below hbW3)
  obtain ⟨g0, g1, g2, g3, g4, g5, g6, g7, g8, g9, g10, g11, g12, g13, LR⟩ := bats14 hbW3 LR g0 g1 g2 g3 g4 g5 g6 g7 g8 g9 g10 g11 g12 g13
  obtain ⟨r0, r1, r2, r3, L2⟩ := bats4 hbW3 L2 r0 r1 r2 r3
  have SG31 := hide (below_trans SG30.out hbW3)
  clear hbW3
  have L3 := lt_of_cell s0
  go_wp2_with fail
  refine (HV.out _ HN.out HN2.out HQ.out HW.out HC.out HO.out HZ.out).mono ?_
  rintro e w32 ⟨rfl, hb32⟩
  have HC := hide (HC.out.below hb32)
  have HO := hide (HO.out.below hb32)
  have HR := hide (HR.out.below hb32)
  have HOR := hide (HOR.out.below hb32)
  obtain ⟨g0, g1, g2, g3, g4, g5, g6, g7, g8, g9, g10, g11, g12, g13, LR⟩ := bats14 hb32 LR g0 g1 g2 g3 g4 g5 g6 g7 g8 g9 g10 g11 g12 g13
  obtain ⟨r0, r1, r2, r3, L2⟩ := bats4 hb32 L2 r0 r1 r2 r3
  obtain ⟨s0, s1, s2, s3, L3⟩ := bats4 hb32 L3 s0 s1 s2 s3
  have SG33 := hide (below_trans SG31.out hb32)
  clear hb32
  by_cases h1 : E1 = 0
  rotate_left
  · have q1 : (E1 == 0) = false := by simpa using h1
    obtain rfl : R = E1 := by rw [HD.out, if_pos h1]
    go_wp2
    all_goals (try (exfalso; go_light; simp_all; done))
    go_ret
    exact ⟨rfl, SG33.out⟩
  subst h1
  go_wp2_with fail
  refine (HT1.out _ HC.out HR.out).mono ?_
  rintro e w34 ⟨rfl, hb34⟩
  have HO := hide (HO.out.below hb34)
  have HOR := hide (HOR.out.below hb34)
  obtain ⟨g0, g1, g2, g3, g4, g5, g6, g7, g8, g9, g10, g11, g12, g13, LR⟩ := bats14 hb34 LR g0 g1 g2 g3 g4 g5 g6 g7 g8 g9 g10 g11 g12 g13
  obtain ⟨r0, r1, r2, r3, L2⟩ := bats4 hb34 L2 r0 r1 r2 r3
  obtain ⟨s0, s1, s2, s3, L3⟩ := bats4 hb34 L3 s0 s1 s2 s3
  have SG35 := hide (below_trans SG33.out hb34)
  clear hb34
  by_cases h2 : E2 = 0
  rotate_left
  · have q2 : (E2 == 0) = false := by simpa using h2
    obtain rfl : R = E2 := by rw [HD.out]; simp [h2]
    go_wp2
    all_goals (try (exfalso; go_light; simp_all; done))
    go_ret
    exact ⟨rfl, SG35.out⟩
  subst h2
  go_wp2_with fail
  refine (HU.out _).mono ?_
  rintro e w36 ⟨rfl, hb36⟩
  have HO := hide (HO.out.below hb36)
  have HOR := hide (HOR.out.below hb36)
  obtain ⟨g0, g1, g2, g3, g4, g5, g6, g7, g8, g9, g10, g11, g12, g13, LR⟩ := bats14 hb36 LR g0 g1 g2 g3 g4 g5 g6 g7 g8 g9 g10 g11 g12 g13
  obtain ⟨r0, r1, r2, r3, L2⟩ := bats4 hb36 L2 r0 r1 r2 r3
  obtain ⟨s0, s1, s2, s3, L3⟩ := bats4 hb36 L3 s0 s1 s2 s3
  have SG37 := hide (below_trans SG35.out hb36)
  clear hb36
  cases U
  · obtain rfl : R = 0 := by rw [HD.out]; simp
    go_wp2
    all_goals (try (exfalso; go_light; simp_all; done))
    go_ret
    exact ⟨rfl, SG37.out⟩
  · obtain rfl : R = E3 := by rw [HD.out]; simp
    go_wp2_with fail
    refine (HT2.out _ HO.out HOR.out).mono ?_
    rintro e w38 ⟨rfl, hb38⟩
    obtain ⟨g0, g1, g2, g3, g4, g5, g6, g7, g8, g9, g10, g11, g12, g13, LR⟩ := bats14 hb38 LR g0 g1 g2 g3 g4 g5 g6 g7 g8 g9 g10 g11 g12 g13
    obtain ⟨r0, r1, r2, r3, L2⟩ := bats4 hb38 L2 r0 r1 r2 r3
    obtain ⟨s0, s1, s2, s3, L3⟩ := bats4 hb38 L3 s0 s1 s2 s3
    have SG39 := hide (below_trans SG37.out hb38)
    clear hb38
    go_wp2
    all_goals (try (exfalso; go_light; simp_all; done))
    go_ret
    exact ⟨rfl, SG39.out⟩
end Go.Proofs.YtggejcekmehocaaGreatDoor
