/-
  warehouselaw28.CheckValidates, CheckViolations. (Printed by gen_lw28.py.)
-/
import Derived.Test.YtodapiholjeehaaGreatDoorKn28
import Derived.Test.YtodapiholjeehaaGreatDoorBlk
namespace Go.Proofs.YtodapiholjeehaaGreatDoor
open Go.RowKit Go.Maps
set_option linter.unusedSimpArgs false
set_option linter.unusedVariables false
set_option maxHeartbeats 4000000 in
set_option maxRecDepth 100000 in
theorem lawVa28_any (w : World) (x : Chk) (A : Option Addr) (n c : Nat) (hn : In w A n c x.cols) (A' : Option Addr) (n' c' : Nat) (hn' : In w A' n' c' x.ocols) (A'' : Option Addr) (n'' c'' : Nat) (hq : In w A'' n'' c'' x.cond) (hw : Words w)
    (rn : ByteArray) (A1 : Option Addr) (n1 c1 : Nat) (cols : List Col) (hc : In w A1 n1 c1 cols) (Ak : Option Addr) (nk ck : Nat) (A3 : Option Addr) (n3 c3 : Nat) (rows : List Ent) (hr : In w A3 n3 c3 rows)
    (on : ByteArray) (A2 : Option Addr) (n2 c2 : Nat) (ocols : List Col) (ho : In w A2 n2 c2 ocols) (Al : Option Addr) (nl cl : Nat) (A4 : Option Addr) (n4 c4 : Nat) (orows : List Ent) (hor : In w A4 n4 c4 orows) (A5 : Option Addr) (n5 c5 : Nat) (zs : List Zone) (hz : In w A5 n5 c5 zs) :
    Calls Tryz.prog 8 #[.agg (chkCells x A n c A' n' c' A'' n'' c'').toArray, .agg #[.string rn, .slice A1 n1 c1, .slice Ak nk ck, .slice A3 n3 c3], .agg #[.string on, .slice A2 n2 c2, .slice Al nl cl, .slice A4 n4 c4], .slice A5 n5 c5] w fun e w' => e = .returned (.bool true) ∧ Below w.heap.size w w' := by
  have HLI := hide fun W hn hn' hq hc hr ho hor hz => light28_any W x A n c hn A' n' c' hn' A'' n'' c'' hq rn A1 n1 c1 cols hc Ak nk ck A3 n3 c3 rows hr on A2 n2 c2 ocols ho Al nl cl A4 n4 c4 orows hor A5 n5 c5 zs hz
  have HV1 := hide fun W hn hn' hq hw hc ho hz (b0 : n ≤ 16) (b1 : n' ≤ 16) (b2 : n1 ≤ 16) (b3 : n2 ≤ 16) => chkValidate_any W x A n c hn A' n' c' hn' A'' n'' c'' hq hw A1 n1 c1 cols hc A2 n2 c2 ocols ho A5 n5 c5 zs hz (by omega) (by omega) (by omega) (by omega)
  have HV2 := hide fun W hn hn' hq hc ho hz (b0 : n ≤ 16) (b1 : n' ≤ 16) (b2 : n1 ≤ 16) (b3 : n2 ≤ 16) => validate28_ref W x A n c hn A' n' c' hn' A'' n'' c'' hq A1 n1 c1 cols hc A2 n2 c2 ocols ho A5 n5 c5 zs hz (by omega) (by omega) (by omega) (by omega)
  obtain ⟨E, hE⟩ : ∃ q, chkErr x cols ocols zs = q := ⟨_, rfl⟩
  rw [hE] at HV1 HV2
  clear hE
  simp only [chkCells] at HLI HV1 HV2 ⊢
  have HN := hide hn
  have HN2 := hide hn'
  have HQ := hide hq
  have HW := hide hw
  have HC := hide hc
  have HO := hide ho
  have HZ := hide hz
  have HR := hide hr
  have HOR := hide hor
  clear hn hn' hq hw hc ho hz hr hor
  go_enter Tryz.func8, Tryz.ntmps8
  go_wp2_with fail
  obtain ⟨W901, hW901⟩ : ∃ W, W = w.alloc (.cells #[.string x.name, .string x.table, .int .i64 x.kind, .slice A n c, .string x.other, .slice A' n' c', .int .i64 x.low, .int .i64 x.high, .slice A'' n'' c'', .int .i64 x.ln, .int .i64 x.ld, .int .i64 x.mn, .int .i64 x.md, .int .i64 x.policy] 27) := ⟨_, rfl⟩
  obtain ⟨g1, hg1⟩ : ∃ q, q = w.heap.size := ⟨_, rfl⟩
  have KC : Hid (Blk W901 g1 27 [.string x.name, .string x.table, .int .i64 x.kind, .slice A n c, .string x.other, .slice A' n' c', .int .i64 x.low, .int .i64 x.high, .slice A'' n'' c'', .int .i64 x.ln, .int .i64 x.ld, .int .i64 x.mn, .int .i64 x.md, .int .i64 x.policy]) := hide (by rw [hW901, hg1]; exact Blk.made _ _ _)
  have SZg1 : Hid (W901.heap.size = g1 + 1) := hide (by rw [hW901, hg1]; exact World.size_alloc _ _)
  have LBg1 : Hid (Below w.heap.size w W901) := hide (by rw [hW901]; exact below_alloc)
  have HGg1 : Hid (w.heap.size ≤ g1) := hide (by rw [hg1]; exact Nat.le_refl _)
  rw [← hW901, ← hg1]
  have HEg1 := hide hg1
  clear hW901 hg1
  have LHBg1 := hide LBg1.out
  obtain ⟨W902, hW902⟩ : ∃ W, W = W901.alloc (.cells #[.string rn, .slice A1 n1 c1, .slice Ak nk ck, .slice A3 n3 c3] 32) := ⟨_, rfl⟩
  obtain ⟨g2, hg2⟩ : ∃ q, q = W901.heap.size := ⟨_, rfl⟩
  have KR : Hid (Blk W902 g2 32 [.string rn, .slice A1 n1 c1, .slice Ak nk ck, .slice A3 n3 c3]) := hide (by rw [hW902, hg2]; exact Blk.made _ _ _)
  have SZg2 : Hid (W902.heap.size = g2 + 1) := hide (by rw [hW902, hg2]; exact World.size_alloc _ _)
  have LBg2 : Hid (Below W901.heap.size W901 W902) := hide (by rw [hW902]; exact below_alloc)
  have HGg2 : Hid (w.heap.size ≤ g2) := hide (by rw [hg2]; exact LHBg1.out.size)
  have NEg1_g2 : Hid (¬ g1 = g2) := hide (by have h := KC.out.lt; omega)
  have hqg2 : g2 = g1 + 1 := by rw [hg2]; exact SZg1.out
  rw [← hW902, ← hqg2]
  clear hqg2
  have HEg2 := hide hg2
  clear hW902 hg2
  have KC := hide (KC.out.below LBg2.out)
  have LHBg2 := hide (below_trans LHBg1.out LBg2.out)
  obtain ⟨W903, hW903⟩ : ∃ W, W = W902.alloc (.cells #[.string on, .slice A2 n2 c2, .slice Al nl cl, .slice A4 n4 c4] 32) := ⟨_, rfl⟩
  obtain ⟨g3, hg3⟩ : ∃ q, q = W902.heap.size := ⟨_, rfl⟩
  have KO : Hid (Blk W903 g3 32 [.string on, .slice A2 n2 c2, .slice Al nl cl, .slice A4 n4 c4]) := hide (by rw [hW903, hg3]; exact Blk.made _ _ _)
  have SZg3 : Hid (W903.heap.size = g3 + 1) := hide (by rw [hW903, hg3]; exact World.size_alloc _ _)
  have LBg3 : Hid (Below W902.heap.size W902 W903) := hide (by rw [hW903]; exact below_alloc)
  have HGg3 : Hid (w.heap.size ≤ g3) := hide (by rw [hg3]; exact LHBg2.out.size)
  have NEg1_g3 : Hid (¬ g1 = g3) := hide (by have h := KC.out.lt; omega)
  have NEg2_g3 : Hid (¬ g2 = g3) := hide (by have h := KR.out.lt; omega)
  have hqg3 : g3 = g2 + 1 := by rw [hg3]; exact SZg2.out
  rw [← hW903, ← hqg3]
  clear hqg3
  have HEg3 := hide hg3
  clear hW903 hg3
  have KC := hide (KC.out.below LBg3.out)
  have KR := hide (KR.out.below LBg3.out)
  have LHBg3 := hide (below_trans LHBg2.out LBg3.out)
  have LTKC := KC.out.lt
  have g0 := KC.out.at 0 rfl
  have g1 := KC.out.at 1 rfl
  have g2 := KC.out.at 2 rfl
  have g3 := KC.out.at 3 rfl
  have g4 := KC.out.at 4 rfl
  have g5 := KC.out.at 5 rfl
  have g6 := KC.out.at 6 rfl
  have g7 := KC.out.at 7 rfl
  have g8 := KC.out.at 8 rfl
  have g9 := KC.out.at 9 rfl
  have g10 := KC.out.at 10 rfl
  have g11 := KC.out.at 11 rfl
  have g12 := KC.out.at 12 rfl
  have g13 := KC.out.at 13 rfl
  have LTKR := KR.out.lt
  have r0 := KR.out.at 0 rfl
  have r1 := KR.out.at 1 rfl
  have r2 := KR.out.at 2 rfl
  have r3 := KR.out.at 3 rfl
  have LTKO := KO.out.lt
  have s0 := KO.out.at 0 rfl
  have s1 := KO.out.at 1 rfl
  have s2 := KO.out.at 2 rfl
  have s3 := KO.out.at 3 rfl
  go_wp2_with fail
  refine (HLI.out _ (HN.out.below LHBg3.out) (HN2.out.below LHBg3.out) (HQ.out.below LHBg3.out) (HC.out.below LHBg3.out) (HR.out.below LHBg3.out) (HO.out.below LHBg3.out) (HOR.out.below LHBg3.out) (HZ.out.below LHBg3.out)).mono ?_
  rintro e w4 ⟨⟨b, rfl, hb⟩, hb4⟩
  clear LTKC g0 g1 g2 g3 g4 g5 g6 g7 g8 g9 g10 g11 g12 g13 LTKR r0 r1 r2 r3 LTKO s0 s1 s2 s3
  have KC := hide (KC.out.below hb4)
  have KR := hide (KR.out.below hb4)
  have KO := hide (KO.out.below hb4)
  have LHC4 := hide (below_trans LHBg3.out hb4)
  clear hb4
  cases b
  · go_wp2_with fail
    refine (known28_any _ (HW.out.below LHC4.out)).mono ?_
    rintro e w5 ⟨rfl, hb5⟩
    have KC := hide (KC.out.below hb5)
    have KR := hide (KR.out.below hb5)
    have KO := hide (KO.out.below hb5)
    have LHC5 := hide (below_trans LHC4.out hb5)
    clear hb5
    go_wp2
    go_ret
    exact ⟨rfl, LHC5.out⟩
  obtain ⟨hb0, hb1, hb2, hb3⟩ := hb rfl
  go_upto_region 3 with (fail)
  have rq6_0 := KC.out.at 0 rfl
  have rq6_1 := KC.out.at 1 rfl
  have rq6_2 := KC.out.at 2 rfl
  have rq6_3 := KC.out.at 3 rfl
  have rq6_4 := KC.out.at 4 rfl
  have rq6_5 := KC.out.at 5 rfl
  have rq6_6 := KC.out.at 6 rfl
  have rq6_7 := KC.out.at 7 rfl
  have rq6_8 := KC.out.at 8 rfl
  have rq6_9 := KC.out.at 9 rfl
  have rq6_10 := KC.out.at 10 rfl
  have rq6_11 := KC.out.at 11 rfl
  have rq6_12 := KC.out.at 12 rfl
  have rq6_13 := KC.out.at 13 rfl
  have rq6_14 := KR.out.at 1 rfl
  have rq6_15 := KO.out.at 1 rfl
  have mk6 : True := trivial
  go_region_held3 (fun V => V.cell? ⟨g1, 0, none⟩ = some (.string x.name) ∧ V.cell? ⟨g1, 1, none⟩ = some (.string x.table) ∧ V.cell? ⟨g1, 2, none⟩ = some (.int .i64 x.kind) ∧ V.cell? ⟨g1, 3, none⟩ = some (.slice A n c) ∧ V.cell? ⟨g1, 4, none⟩ = some (.string x.other) ∧ V.cell? ⟨g1, 5, none⟩ = some (.slice A' n' c') ∧ V.cell? ⟨g1, 6, none⟩ = some (.int .i64 x.low) ∧ V.cell? ⟨g1, 7, none⟩ = some (.int .i64 x.high) ∧ V.cell? ⟨g1, 8, none⟩ = some (.slice A'' n'' c'') ∧ V.cell? ⟨g1, 9, none⟩ = some (.int .i64 x.ln) ∧ V.cell? ⟨g1, 10, none⟩ = some (.int .i64 x.ld) ∧ V.cell? ⟨g1, 11, none⟩ = some (.int .i64 x.mn) ∧ V.cell? ⟨g1, 12, none⟩ = some (.int .i64 x.md) ∧ V.cell? ⟨g1, 13, none⟩ = some (.int .i64 x.policy) ∧ V.cell? ⟨g2, 1, none⟩ = some (.slice A1 n1 c1) ∧ V.cell? ⟨g3, 1, none⟩ = some (.slice A2 n2 c2))
    (first | exact ⟨(KC.out.below RB9.out).at 0 rfl, (KC.out.below RB9.out).at 1 rfl, (KC.out.below RB9.out).at 2 rfl, (KC.out.below RB9.out).at 3 rfl, (KC.out.below RB9.out).at 4 rfl, (KC.out.below RB9.out).at 5 rfl, (KC.out.below RB9.out).at 6 rfl, (KC.out.below RB9.out).at 7 rfl, (KC.out.below RB9.out).at 8 rfl, (KC.out.below RB9.out).at 9 rfl, (KC.out.below RB9.out).at 10 rfl, (KC.out.below RB9.out).at 11 rfl, (KC.out.below RB9.out).at 12 rfl, (KC.out.below RB9.out).at 13 rfl, (KR.out.below RB9.out).at 1 rfl, (KO.out.below RB9.out).at 1 rfl⟩ | exact ⟨(KC.out.below RB8.out).at 0 rfl, (KC.out.below RB8.out).at 1 rfl, (KC.out.below RB8.out).at 2 rfl, (KC.out.below RB8.out).at 3 rfl, (KC.out.below RB8.out).at 4 rfl, (KC.out.below RB8.out).at 5 rfl, (KC.out.below RB8.out).at 6 rfl, (KC.out.below RB8.out).at 7 rfl, (KC.out.below RB8.out).at 8 rfl, (KC.out.below RB8.out).at 9 rfl, (KC.out.below RB8.out).at 10 rfl, (KC.out.below RB8.out).at 11 rfl, (KC.out.below RB8.out).at 12 rfl, (KC.out.below RB8.out).at 13 rfl, (KR.out.below RB8.out).at 1 rfl, (KO.out.below RB8.out).at 1 rfl⟩ | exact ⟨(KC.out.below RB7.out).at 0 rfl, (KC.out.below RB7.out).at 1 rfl, (KC.out.below RB7.out).at 2 rfl, (KC.out.below RB7.out).at 3 rfl, (KC.out.below RB7.out).at 4 rfl, (KC.out.below RB7.out).at 5 rfl, (KC.out.below RB7.out).at 6 rfl, (KC.out.below RB7.out).at 7 rfl, (KC.out.below RB7.out).at 8 rfl, (KC.out.below RB7.out).at 9 rfl, (KC.out.below RB7.out).at 10 rfl, (KC.out.below RB7.out).at 11 rfl, (KC.out.below RB7.out).at 12 rfl, (KC.out.below RB7.out).at 13 rfl, (KR.out.below RB7.out).at 1 rfl, (KO.out.below RB7.out).at 1 rfl⟩ | exact ⟨rq6_0, rq6_1, rq6_2, rq6_3, rq6_4, rq6_5, rq6_6, rq6_7, rq6_8, rq6_9, rq6_10, rq6_11, rq6_12, rq6_13, rq6_14, rq6_15⟩ | go_keep)
    (first | (clear mk6; go_at_call 33; refine (HV1.out _ (HN.out.below (Below.drew LHC4.out)) (HN2.out.below (Below.drew LHC4.out)) (HQ.out.below (Below.drew LHC4.out)) (HW.out.below (Below.drew LHC4.out)) (HC.out.below (Below.drew LHC4.out)) (HO.out.below (Below.drew LHC4.out)) (HZ.out.below (Below.drew LHC4.out)) hb0 hb1 hb2 hb3).mono ?_; rintro e w7 ⟨rfl, hb7⟩; have RB7 := hide (below_undrew hb7); clear hb7; have mk7 : True := trivial) | (clear mk7; go_at_call 34; refine (HV2.out _ (HN.out.below (below_trans LHC4.out RB7.out)) (HN2.out.below (below_trans LHC4.out RB7.out)) (HQ.out.below (below_trans LHC4.out RB7.out)) (HC.out.below (below_trans LHC4.out RB7.out)) (HO.out.below (below_trans LHC4.out RB7.out)) (HZ.out.below (below_trans LHC4.out RB7.out)) hb0 hb1 hb2 hb3).mono ?_; rintro e w8 ⟨rfl, hb8⟩; have RB8 := hide (below_trans RB7.out hb8); clear hb8; have mk8 : True := trivial) | (clear mk8; go_at_call 32; refine (known28_any _ (HW.out.below (below_trans LHC4.out RB8.out))).mono ?_; rintro e w9 ⟨rfl, hb9⟩; have RB9 := hide (below_trans RB8.out hb9); clear hb9; have mk9 : True := trivial))
  clear mk9 rq6_0 rq6_1 rq6_2 rq6_3 rq6_4 rq6_5 rq6_6 rq6_7 rq6_8 rq6_9 rq6_10 rq6_11 rq6_12 rq6_13 rq6_14 rq6_15
  have KC := hide (KC.out.below RB9.out)
  have KR := hide (KR.out.below RB9.out)
  have KO := hide (KO.out.below RB9.out)
  have LHR9 := hide (below_trans LHC4.out RB9.out)
  go_wp2
  go_ret
  exact ⟨rfl, LHR9.out⟩
end Go.Proofs.YtodapiholjeehaaGreatDoor
