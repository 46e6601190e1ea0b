/-
  warehouselaw22.PartitionSplit.
-/
import Derived.Test.YtlbhnfnecfllkaaGreatKno
import Derived.Test.YtlbhnfnecfllkaaGreatDayR
import Derived.Test.YtlbhnfnecfllkaaGreatTabW
import Derived.Test.YtlbhnfnecfllkaaGreatGaf
import Derived.Test.YtlbhnfnecfllkaaGreatSame
import Derived.Test.YtlbhnfnecfllkaaGreatGac
namespace Go.Proofs.YtlbhnfnecfllkaaGreat
open Go.RowKit
set_option linter.unusedSimpArgs false
set_option linter.unusedVariables false

theorem split_eq {E at_ : Int} {z : Zone} {rows : List Ent} {ps qs : List Partn} (h1 : E ≠ 0 → ps = []) (h2 : E = 0 → IsSplit at_ z rows ps) (h3 : E ≠ 0 → qs = []) (h4 : E = 0 → IsSplit at_ z rows qs) : ps = qs := by
  by_cases h : E = 0
  · exact (h2 h).unique (h4 h)
  · rw [h1 h, h3 h]
set_option maxHeartbeats 8000000 in
set_option maxRecDepth 100000 in
theorem lawSp_any (w : World) (A1 : Option Addr) (n1 c1 : Nat) (cols : List Col) (hc : In w A1 n1 c1 cols) (col : ByteArray) (A : Option Addr) (n c : Nat) (z : Zone) (hx : In w A n c z.shifts) (ho : I64 z.offset) (A2 : Option Addr) (n2 c2 : Nat) (rows : List Ent) (hr : In w A2 n2 c2 rows) (nn zz : Int) (A3 : Option Addr) (n3 c3 : Nat) (l : List Int) (hl : In w A3 n3 c3 l) :
    Calls Tryz.prog 3 #[.slice A1 n1 c1, .string col, .agg #[.string z.name, .int .i64 z.offset, .slice A n c], .slice A2 n2 c2, .int .i64 nn, .int .i64 zz, .slice A3 n3 c3] w
      fun e w' => e = .returned (.bool true) ∧ Below w.heap.size w w' := by
  have h1 := hc.le
  have h3 := hl.le
  have h4 := hx.le
  obtain ⟨sm, hsm⟩ : ∃ sm, (decide (n1 ≤ 16) && decide (n ≤ 70) && decide (n3 ≤ 80)) = sm := ⟨_, rfl⟩
  have HSM := hide hsm
  obtain ⟨E, hE⟩ : ∃ E, schemeErr cols col z rows = E := ⟨_, rfl⟩
  have HE := hide hE
  clear hsm hE
  go_enter Tryz.func3, Tryz.ntmps3
  go_wp2_with fail
  refine (small_law _ A1 A A3 n1 c1 n c n3 c3 z.name z.offset h1 h4 h3).mono ?_
  rintro e w1 ⟨rfl, hb1⟩
  rw [HSM.out]
  have hbb := below_trans below_alloc hb1
  have g0 := bat (b := w.heap.size) (o := 0) (v := .string z.name) hb1 (by simp) (by simp [go_sem])
  have g1 := bat (b := w.heap.size) (o := 1) (v := .int .i64 z.offset) hb1 (by simp) (by simp [go_sem])
  have g2 := bat (b := w.heap.size) (o := 2) (v := .slice A n c) hb1 (by simp) (by simp [go_sem])
  clear hb1 h1 h3 h4
  have HC := hide hc
  clear hc
  have HX := hide hx
  clear hx
  have HR := hide hr
  clear hr
  have HL := hide hl
  clear hl
  have HC := hide (HC.out.below hbb)
  have HX := hide (HX.out.below hbb)
  have HR := hide (HR.out.below hbb)
  have HL := hide (HL.out.below hbb)
  have SG1 := hide hbb
  clear hbb
  have LZ := lt_of_cell g0
  cases sm
  · go_wp2_with fail
    refine (known_any _).mono ?_
    rintro e w2 ⟨rfl, hb2⟩
    have HC := hide (HC.out.below hb2)
    have HX := hide (HX.out.below hb2)
    have HR := hide (HR.out.below hb2)
    have HL := hide (HL.out.below hb2)
    have g0 := bat hb2 LZ g0
    have g1 := bat hb2 LZ g1
    have g2 := bat hb2 LZ g2
    have LZ := lt_of_cell g0
    have SG3 := hide (below_trans SG1.out hb2)
    clear hb2
    go_wp2
    go_ret
    exact ⟨rfl, SG3.out⟩
  have hn3 : n3 ≤ 80 := by have := HSM.out; simp at this; omega
  go_wp2_with fail
  refine (within_any _ A2 n2 c2 rows HR.out 20).mono ?_
  rintro e w4 ⟨⟨r, rfl, hrr⟩, hb4⟩
  have HC := hide (HC.out.below hb4)
  have HX := hide (HX.out.below hb4)
  have HR := hide (HR.out.below hb4)
  have HL := hide (HL.out.below hb4)
  have g0 := bat hb4 LZ g0
  have g1 := bat hb4 LZ g1
  have g2 := bat hb4 LZ g2
  have LZ := lt_of_cell g0
  have SG5 := hide (below_trans SG1.out hb4)
  clear hb4
  cases r
  · go_wp2_with fail
    refine (known_any _).mono ?_
    rintro e w6 ⟨rfl, hb6⟩
    have HC := hide (HC.out.below hb6)
    have HX := hide (HX.out.below hb6)
    have HR := hide (HR.out.below hb6)
    have HL := hide (HL.out.below hb6)
    have g0 := bat hb6 LZ g0
    have g1 := bat hb6 LZ g1
    have g2 := bat hb6 LZ g2
    have LZ := lt_of_cell g0
    have SG7 := hide (below_trans SG5.out hb6)
    clear hb6
    go_wp2
    go_ret
    exact ⟨rfl, SG7.out⟩
  go_wp2_with fail
  refine (splitP_any _ _ _ _ cols HC.out col A n c z HX.out ho _ _ _ rows HR.out).mono ?_
  rintro e w8 ⟨⟨B1, m1, d1, ps1, rfl, hi1, hz1, hs1⟩, hb8⟩
  have HC := hide (HC.out.below hb8)
  have HX := hide (HX.out.below hb8)
  have HR := hide (HR.out.below hb8)
  have HL := hide (HL.out.below hb8)
  have g0 := bat hb8 LZ g0
  have g1 := bat hb8 LZ g1
  have g2 := bat hb8 LZ g2
  have LZ := lt_of_cell g0
  have SG9 := hide (below_trans SG5.out hb8)
  clear hb8
  rw [HE.out] at hz1 hs1 ⊢
  have I1 := hide hi1
  clear hi1
  go_wp2_with fail
  refine (splitR_ref _ _ _ _ cols HC.out col A n c z HX.out ho _ _ _ rows HR.out).mono ?_
  rintro e w10 ⟨⟨B2, m2, d2, ps2, rfl, hi2, hz2, hs2⟩, hb10⟩
  have HC := hide (HC.out.below hb10)
  have HX := hide (HX.out.below hb10)
  have HR := hide (HR.out.below hb10)
  have HL := hide (HL.out.below hb10)
  have I1 := hide (I1.out.below hb10)
  have g0 := bat hb10 LZ g0
  have g1 := bat hb10 LZ g1
  have g2 := bat hb10 LZ g2
  have LZ := lt_of_cell g0
  have SG11 := hide (below_trans SG9.out hb10)
  clear hb10
  rw [HE.out] at hz2 hs2 ⊢
  have I2 := hide hi2
  clear hi2
  have HP := hide (split_eq hz1 hs1 hz2 hs2)
  clear hz1 hs1 hz2 hs2
  clear HC
  clear HX
  clear HR
  clear LZ g0 g1 g2
  go_wp2_with fail
  refine (tableL_any _ A3 n3 c3 l HL.out hn3 nn zz).mono ?_
  rintro e w20 ⟨⟨gb, B3, m3, wc, Z, B4, m4, d4, B5, m5, d5, zs, j, rfl, hoc, hcm, hinZ, hmZ, hin, hto, hnum, hgb⟩, hb20⟩
  have HL := hide (HL.out.below hb20)
  have I1 := hide (I1.out.below hb20)
  have I2 := hide (I2.out.below hb20)
  have SG12 := hide (below_trans SG11.out hb20)
  clear hb20
  obtain ⟨hzZ, hoZ⟩ := wZones_ok Z hmZ
  obtain ⟨E1, hE1⟩ : ∃ E, schemeErr wc ⟨#[97, 116]⟩ Z zs = E := ⟨_, rfl⟩
  have HE1 := hide hE1
  obtain ⟨E2, hE2⟩ : ∃ E, schemeErr wc ⟨#[]⟩ Z zs = E := ⟨_, rfl⟩
  have HE2 := hide hE2
  have hcc := hoc.inn
  clear hto hnum hgb hcm hE1 hE2 hzZ hmZ
  have HC := hide hcc
  clear hcc
  have HX := hide hinZ
  clear hinZ
  have HR := hide hin
  clear hin
  go_wp2_with fail
  obtain ⟨W7, hW7⟩ : ∃ W7, W7 = w20.alloc (.cells #[.string Z.name, .int .i64 Z.offset, .slice B4 m4 d4] 25) := ⟨_, rfl⟩
  have z0 : W7.cell? ⟨w20.heap.size, 0, none⟩ = some (.string Z.name) := by rw [hW7]; simp [go_sem]
  have z1 : W7.cell? ⟨w20.heap.size, 1, none⟩ = some (.int .i64 Z.offset) := by rw [hW7]; simp [go_sem]
  have z2 : W7.cell? ⟨w20.heap.size, 2, none⟩ = some (.slice B4 m4 d4) := by rw [hW7]; simp [go_sem]
  have hb7 : Below w20.heap.size w20 W7 := by rw [hW7]; exact below_alloc
  rw [← hW7]
  clear hW7
  have HL := hide (HL.out.below hb7)
  have I1 := hide (I1.out.below hb7)
  have I2 := hide (I2.out.below hb7)
  have HC := hide (HC.out.below hb7)
  have HX := hide (HX.out.below hb7)
  have HR := hide (HR.out.below hb7)
  have SG13 := hide (below_trans SG12.out hb7)
  clear hb7
  have LZ := lt_of_cell z0
  refine (splitP_any _ _ _ _ wc HC.out ⟨#[97, 116]⟩ _ _ _ Z HX.out hoZ _ _ _ zs HR.out).mono ?_
  rintro e w14 ⟨⟨B6, m6, d6, ps3, rfl, hi3, hz3, hs3⟩, hb14⟩
  have HL := hide (HL.out.below hb14)
  have I1 := hide (I1.out.below hb14)
  have I2 := hide (I2.out.below hb14)
  have HC := hide (HC.out.below hb14)
  have HX := hide (HX.out.below hb14)
  have HR := hide (HR.out.below hb14)
  have z0 := bat hb14 LZ z0
  have z1 := bat hb14 LZ z1
  have z2 := bat hb14 LZ z2
  have LZ := lt_of_cell z0
  have SG15 := hide (below_trans SG13.out hb14)
  clear hb14
  rw [HE1.out] at hz3 hs3 ⊢
  have I3 := hide hi3
  clear hi3
  go_wp2_with fail
  refine (splitR_ref _ _ _ _ wc HC.out ⟨#[97, 116]⟩ _ _ _ Z HX.out hoZ _ _ _ zs HR.out).mono ?_
  rintro e w16 ⟨⟨B7, m7, d7, ps4, rfl, hi4, hz4, hs4⟩, hb16⟩
  have HL := hide (HL.out.below hb16)
  have I1 := hide (I1.out.below hb16)
  have I2 := hide (I2.out.below hb16)
  have HC := hide (HC.out.below hb16)
  have HX := hide (HX.out.below hb16)
  have HR := hide (HR.out.below hb16)
  have I3 := hide (I3.out.below hb16)
  have z0 := bat hb16 LZ z0
  have z1 := bat hb16 LZ z1
  have z2 := bat hb16 LZ z2
  have LZ := lt_of_cell z0
  have SG17 := hide (below_trans SG15.out hb16)
  clear hb16
  rw [HE1.out] at hz4 hs4 ⊢
  have I4 := hide hi4
  clear hi4
  have HP2 := hide (split_eq hz3 hs3 hz4 hs4)
  clear hz3 hs3 hz4 hs4
  go_wp2_with fail
  refine (splitP_any _ _ _ _ wc HC.out ⟨#[]⟩ _ _ _ Z HX.out hoZ _ _ _ zs HR.out).mono ?_
  rintro e w18 ⟨⟨B8, m8, d8, ps5, rfl, hi5, hz5, hs5⟩, hb18⟩
  have HL := hide (HL.out.below hb18)
  have I1 := hide (I1.out.below hb18)
  have I2 := hide (I2.out.below hb18)
  have HC := hide (HC.out.below hb18)
  have HX := hide (HX.out.below hb18)
  have HR := hide (HR.out.below hb18)
  have I3 := hide (I3.out.below hb18)
  have I4 := hide (I4.out.below hb18)
  have z0 := bat hb18 LZ z0
  have z1 := bat hb18 LZ z1
  have z2 := bat hb18 LZ z2
  have LZ := lt_of_cell z0
  have SG19 := hide (below_trans SG17.out hb18)
  clear hb18
  rw [HE2.out] at hz5 hs5 ⊢
  have I5 := hide hi5
  clear hi5
  go_wp2_with fail
  refine (splitR_ref _ _ _ _ wc HC.out ⟨#[]⟩ _ _ _ Z HX.out hoZ _ _ _ zs HR.out).mono ?_
  rintro e w20 ⟨⟨B9, m9, d9, ps6, rfl, hi6, hz6, hs6⟩, hb20⟩
  have HL := hide (HL.out.below hb20)
  have I1 := hide (I1.out.below hb20)
  have I2 := hide (I2.out.below hb20)
  have HC := hide (HC.out.below hb20)
  have HX := hide (HX.out.below hb20)
  have HR := hide (HR.out.below hb20)
  have I3 := hide (I3.out.below hb20)
  have I4 := hide (I4.out.below hb20)
  have I5 := hide (I5.out.below hb20)
  have z0 := bat hb20 LZ z0
  have z1 := bat hb20 LZ z1
  have z2 := bat hb20 LZ z2
  have LZ := lt_of_cell z0
  have SG21 := hide (below_trans SG19.out hb20)
  clear hb20
  rw [HE2.out] at hz6 hs6 ⊢
  have I6 := hide hi6
  clear hi6
  have HP3 := hide (split_eq hz5 hs5 hz6 hs6)
  clear hz5 hs5 hz6 hs6
  go_wp2_with fail
  refine (sameParts_any _ _ _ _ _ _ _ ps1 ps2 I1.out I2.out).mono ?_
  rintro e w22 ⟨⟨r1, rfl, hq1⟩, hb22⟩
  have HL := hide (HL.out.below hb22)
  have I1 := hide (I1.out.below hb22)
  have I2 := hide (I2.out.below hb22)
  have HC := hide (HC.out.below hb22)
  have HX := hide (HX.out.below hb22)
  have HR := hide (HR.out.below hb22)
  have I3 := hide (I3.out.below hb22)
  have I4 := hide (I4.out.below hb22)
  have I5 := hide (I5.out.below hb22)
  have I6 := hide (I6.out.below hb22)
  have z0 := bat hb22 LZ z0
  have z1 := bat hb22 LZ z1
  have z2 := bat hb22 LZ z2
  have LZ := lt_of_cell z0
  have SG23 := hide (below_trans SG21.out hb22)
  clear hb22
  obtain rfl := hq1.2 HP.out
  clear hq1
  go_wp2_with fail
  refine (sameParts_any _ _ _ _ _ _ _ ps3 ps4 I3.out I4.out).mono ?_
  rintro e w24 ⟨⟨r2, rfl, hq2⟩, hb24⟩
  have HL := hide (HL.out.below hb24)
  have I1 := hide (I1.out.below hb24)
  have I2 := hide (I2.out.below hb24)
  have HC := hide (HC.out.below hb24)
  have HX := hide (HX.out.below hb24)
  have HR := hide (HR.out.below hb24)
  have I3 := hide (I3.out.below hb24)
  have I4 := hide (I4.out.below hb24)
  have I5 := hide (I5.out.below hb24)
  have I6 := hide (I6.out.below hb24)
  have z0 := bat hb24 LZ z0
  have z1 := bat hb24 LZ z1
  have z2 := bat hb24 LZ z2
  have LZ := lt_of_cell z0
  have SG25 := hide (below_trans SG23.out hb24)
  clear hb24
  obtain rfl := hq2.2 HP2.out
  clear hq2
  go_wp2_with fail
  refine (sameParts_any _ _ _ _ _ _ _ ps5 ps6 I5.out I6.out).mono ?_
  rintro e w26 ⟨⟨r3, rfl, hq3⟩, hb26⟩
  have HL := hide (HL.out.below hb26)
  have I1 := hide (I1.out.below hb26)
  have I2 := hide (I2.out.below hb26)
  have HC := hide (HC.out.below hb26)
  have HX := hide (HX.out.below hb26)
  have HR := hide (HR.out.below hb26)
  have I3 := hide (I3.out.below hb26)
  have I4 := hide (I4.out.below hb26)
  have I5 := hide (I5.out.below hb26)
  have I6 := hide (I6.out.below hb26)
  have z0 := bat hb26 LZ z0
  have z1 := bat hb26 LZ z1
  have z2 := bat hb26 LZ z2
  have LZ := lt_of_cell z0
  have SG27 := hide (below_trans SG25.out hb26)
  clear hb26
  obtain rfl := hq3.2 HP3.out
  clear hq3
  go_wp2_with fail
  refine (known_any _).mono ?_
  rintro e w28 ⟨rfl, hb28⟩
  have HL := hide (HL.out.below hb28)
  have I1 := hide (I1.out.below hb28)
  have I2 := hide (I2.out.below hb28)
  have HC := hide (HC.out.below hb28)
  have HX := hide (HX.out.below hb28)
  have HR := hide (HR.out.below hb28)
  have I3 := hide (I3.out.below hb28)
  have I4 := hide (I4.out.below hb28)
  have I5 := hide (I5.out.below hb28)
  have I6 := hide (I6.out.below hb28)
  have z0 := bat hb28 LZ z0
  have z1 := bat hb28 LZ z1
  have z2 := bat hb28 LZ z2
  have LZ := lt_of_cell z0
  have SG29 := hide (below_trans SG27.out hb28)
  clear hb28
  go_wp2
  go_ret
  exact ⟨rfl, SG29.out⟩
end Go.Proofs.YtlbhnfnecfllkaaGreat
