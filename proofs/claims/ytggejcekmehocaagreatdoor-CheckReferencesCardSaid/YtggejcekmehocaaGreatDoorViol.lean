/-
  check.violated: the function that reports whether a row violates a row check. (Printed by gen_viol.py.)
-/
import Derived.Laws.EntriesVeiled
import Derived.Test.YtggejcekmehocaaGreatDoorChkA
import Derived.Test.YtggejcekmehocaaGreatDoorViolP
namespace Go.Proofs.YtggejcekmehocaaGreatDoor
open Go.RowKit Go.Maps
set_option linter.unusedSimpArgs false
set_option linter.unusedVariables false
section
variable (w : World) (x : Chk) (A : Option Addr) (n c : Nat) (hn : In w A n c x.cols) (A' : Option Addr) (n' c' : Nat) (hn' : In w A' n' c' x.ocols) (A'' : Option Addr) (n'' c'' : Nat) (hq : In w A'' n'' c'' x.cond) (hw : Words w) (rn : ByteArray) (A1 : Option Addr) (n1 c1 : Nat) (cols : List Col) (hc : In w A1 n1 c1 cols) (Ak : Option Addr) (nk ck : Nat) (A3 : Option Addr) (n3 c3 : Nat) (rows : List Ent) (hr : In w A3 n3 c3 rows) (on : ByteArray) (A2 : Option Addr) (n2 c2 : Nat) (ocols : List Col) (ho : In w A2 n2 c2 ocols) (Al : Option Addr) (nl cl : Nat) (A4 : Option Addr) (n4 c4 : Nat) (orows : List Ent) (hor : In w A4 n4 c4 orows) (A5 : Option Addr) (n5 c5 : Nat) (zs : List Zone) (hz : In w A5 n5 c5 zs)
include w x A n c hn A' n' c' hn' A'' n'' c'' hq hw rn A1 n1 c1 cols hc Ak nk ck A3 n3 c3 rows hr on A2 n2 c2 ocols ho Al nl cl A4 n4 c4 orows hor A5 n5 c5 zs hz
set_option maxHeartbeats 4000000 in
set_option maxRecDepth 100000 in
theorem violated_r1 (hb0 : n ≤ 4096) (hb1 : n' ≤ 4096) (hb2 : n1 ≤ 4096) (hb3 : n2 ≤ 4096) (hE : allErr x cols ocols rows orows zs = 0) (q0 : (x.kind == 0) = false) (q1 : (x.kind == 1) = true) :
    Calls Tryz.prog 62 #[.agg (chkCells x A n c A' n' c' A'' n'' c'').toArray, .agg #[.string rn, .slice A1 n1 c1, .slice Ak nk ck, .slice A3 n3 c3], .agg #[.string on, .slice A2 n2 c2, .slice Al nl cl, .slice A4 n4 c4], .slice A5 n5 c5] w
      fun e w' => (∃ fv, e = .returned fv ∧ IsBad w' fv cols (violB x cols ocols rows orows zs)) ∧ Below w.heap.size w w' := by
  obtain ⟨hE1, hE2, hE3⟩ := all_zero hE
  obtain ⟨⟨k0, k6⟩, hcz, hcols⟩ := chk_zero hE1
  obtain ⟨hbz, htz, hrz⟩ := tabErr_zero hE2
  obtain ⟨hrl, hrc⟩ := bag_zero hbz htz
  have hrl' : n3 ≤ 4096 := by rw [← hr.len]; exact hrl
  have HV := hide fun row => viol_kind (x := x) (rc := cols) (oc := ocols) (rr := rows) (orr := orows) (zs := zs) (row := row)
  obtain ⟨VB, hVB⟩ : ∃ V, violB x cols ocols rows orows zs = V := ⟨_, rfl⟩
  rw [hVB]
  have HVB := hide hVB
  have HE3 := hide hE3
  have HCZ := hide hcz
  have HCOLS := hide hcols
  have HRC := hide hrc
  have HRZ := hide hrz
  clear hE hE1 hE2 hE3 hcz hcols hbz htz hrl hrc hrz hVB k0 k6
  simp only [chkCells]
  go_enter Tryz.func62, Tryz.ntmps62
  have HN := hide hn
  clear hn
  have HN2 := hide hn'
  clear hn'
  have HQ := hide hq
  clear hq
  have HW := hide hw
  clear hw
  have HC := hide hc
  clear hc
  have HO := hide ho
  clear ho
  have HZ := hide hz
  clear hz
  have HR := hide hr
  clear hr
  have HOR := hide hor
  clear hor
  go_wp2_with fail
  obtain ⟨W1, hW1⟩ : ∃ W, W = w.alloc (.cells #[.string x.name, .string x.table, .int .i64 x.kind, .slice A n c, .string x.other, .slice A' n' c', .int .i64 x.low, .int .i64 x.high, .slice A'' n'' c'', .int .i64 x.ln, .int .i64 x.ld, .int .i64 x.mn, .int .i64 x.md, .int .i64 x.policy] 27) := ⟨_, rfl⟩
  obtain ⟨hbW1, SZW1, g0, g1, g2, g3, g4, g5, g6, g7, g8, g9, g10, g11, g12, g13⟩ := boxed14 hW1 rfl
  rw [← hW1]
  clear hW1
  have HN := hide (HN.out.below hbW1)
  have HC := hide (HC.out.below hbW1)
  have SG1 := hide hbW1
  clear hbW1
  have LR := lt_of_cell g0
  obtain ⟨W2, hW2⟩ : ∃ W, W = W1.alloc (.cells #[.string rn, .slice A1 n1 c1, .slice Ak nk ck, .slice A3 n3 c3] 32) := ⟨_, rfl⟩
  obtain ⟨hbW2, SZW2, r0, r1, r2, r3⟩ := boxed4 (b := w.heap.size + 1) hW2 (by rw [SZW1.out])
  rw [← hW2]
  clear hW2
  have HN := hide (HN.out.below hbW2)
  have HC := hide (HC.out.below hbW2)
  obtain ⟨g0, g1, g2, g3, g4, g5, g6, g7, g8, g9, g10, g11, g12, g13, LR⟩ := bats14 hbW2 LR g0 g1 g2 g3 g4 g5 g6 g7 g8 g9 g10 g11 g12 g13
  have SG2 := hide (below_trans SG1.out hbW2)
  clear hbW2
  have L2 := lt_of_cell r0
  obtain ⟨W3, hW3⟩ : ∃ W, W = W2.alloc (.cells #[.string on, .slice A2 n2 c2, .slice Al nl cl, .slice A4 n4 c4] 32) := ⟨_, rfl⟩
  obtain ⟨hbW3, SZW3, s0, s1, s2, s3⟩ := boxed4 (b := w.heap.size + 1 + 1) hW3 (by rw [SZW2.out, SZW1.out])
  rw [← hW3]
  clear hW3
  have HN := hide (HN.out.below hbW3)
  have HC := hide (HC.out.below hbW3)
  obtain ⟨g0, g1, g2, g3, g4, g5, g6, g7, g8, g9, g10, g11, g12, g13, LR⟩ := bats14 hbW3 LR g0 g1 g2 g3 g4 g5 g6 g7 g8 g9 g10 g11 g12 g13
  obtain ⟨r0, r1, r2, r3, L2⟩ := bats4 hbW3 L2 r0 r1 r2 r3
  have SG3 := hide (below_trans SG2.out hbW3)
  clear hbW3
  have L3 := lt_of_cell s0
  obtain ⟨W4, hW4⟩ : ∃ W, W = W3.alloc (.cells #[.slice A5 n5 c5] 65) := ⟨_, rfl⟩
  obtain ⟨hbW4, SZW4, z0⟩ := boxed1 (b := w.heap.size + 1 + 1 + 1) hW4 (by rw [SZW3.out, SZW2.out, SZW1.out])
  rw [← hW4]
  clear hW4
  have HN := hide (HN.out.below hbW4)
  have HC := hide (HC.out.below hbW4)
  obtain ⟨g0, g1, g2, g3, g4, g5, g6, g7, g8, g9, g10, g11, g12, g13, LR⟩ := bats14 hbW4 LR g0 g1 g2 g3 g4 g5 g6 g7 g8 g9 g10 g11 g12 g13
  obtain ⟨r0, r1, r2, r3, L2⟩ := bats4 hbW4 L2 r0 r1 r2 r3
  obtain ⟨s0, s1, s2, s3, L3⟩ := bats4 hbW4 L3 s0 s1 s2 s3
  have SG4 := hide (below_trans SG3.out hbW4)
  clear hbW4
  have L4 := lt_of_cell z0
  obtain ⟨FV, hFV⟩ : ∃ v, v = Value.func (.func 93) #[] #[.pointer (some ⟨w.heap.size + 1, 0, none⟩), .pointer (some ⟨w.heap.size, 0, none⟩)] := ⟨_, rfl⟩
  rw [← hFV]
  have HFV := hide hFV
  clear hFV
  obtain ⟨W5, hW5⟩ : ∃ W, W = W4.alloc (.cells #[FV] 110) := ⟨_, rfl⟩
  obtain ⟨hbW5, SZW5, p0⟩ := boxed1 (b := w.heap.size + 1 + 1 + 1 + 1) hW5 (by rw [SZW4.out, SZW3.out, SZW2.out, SZW1.out])
  rw [← hW5]
  clear hW5
  have HN := hide (HN.out.below hbW5)
  have HC := hide (HC.out.below hbW5)
  obtain ⟨g0, g1, g2, g3, g4, g5, g6, g7, g8, g9, g10, g11, g12, g13, LR⟩ := bats14 hbW5 LR g0 g1 g2 g3 g4 g5 g6 g7 g8 g9 g10 g11 g12 g13
  obtain ⟨r0, r1, r2, r3, L2⟩ := bats4 hbW5 L2 r0 r1 r2 r3
  obtain ⟨s0, s1, s2, s3, L3⟩ := bats4 hbW5 L3 s0 s1 s2 s3
  have z0 := bat hbW5 L4 z0
  have L4 := lt_of_cell z0
  have SG5 := hide (below_trans SG4.out hbW5)
  clear hbW5
  have L5 := lt_of_cell p0
  obtain ⟨hi, hpos, hsing, hoth⟩ := HCOLS.out (by have h9 : x.kind = 1 := (by simpa using q1); rw [usesC, h9]; rfl)
  have HI := hide hi
  clear hi
  have HOW := hide (OwnAt.mk (names := x.cols) (cols := cols) (p0.trans (congrArg some HFV.out)) r1 g3 HC.out HN.out)
  have HBW := hide SG5.out
  go_wp2
  all_goals (try (exfalso; go_light; simp_all; done))
  go_ret
  exact ⟨⟨_, rfl, 97, [.pointer (some ⟨w.heap.size + 1 + 1 + 1 + 1, 0, none⟩)], rfl, (fun args W => by go_simp), fun W hW Ar nr cr row hrow hfit => by
    have h1 := null_own W _ _ _ A1 n1 c1 cols A n c x.cols (HOW.out.below hW) hb2 hb0 Ar nr cr row hrow
    rw [← HVB.out, (HV.out row).2.1 (by simpa using q1)]
    exact h1⟩, HBW.out⟩
set_option maxHeartbeats 4000000 in
set_option maxRecDepth 100000 in
theorem violated_r2 (hb0 : n ≤ 4096) (hb1 : n' ≤ 4096) (hb2 : n1 ≤ 4096) (hb3 : n2 ≤ 4096) (hE : allErr x cols ocols rows orows zs = 0) (q0 : (x.kind == 0) = false) (q1 : (x.kind == 1) = false) (q2 : (x.kind == 2) = true) :
    Calls Tryz.prog 62 #[.agg (chkCells x A n c A' n' c' A'' n'' c'').toArray, .agg #[.string rn, .slice A1 n1 c1, .slice Ak nk ck, .slice A3 n3 c3], .agg #[.string on, .slice A2 n2 c2, .slice Al nl cl, .slice A4 n4 c4], .slice A5 n5 c5] w
      fun e w' => (∃ fv, e = .returned fv ∧ IsBad w' fv cols (violB x cols ocols rows orows zs)) ∧ Below w.heap.size w w' := by
  obtain ⟨hE1, hE2, hE3⟩ := all_zero hE
  obtain ⟨⟨k0, k6⟩, hcz, hcols⟩ := chk_zero hE1
  obtain ⟨hbz, htz, hrz⟩ := tabErr_zero hE2
  obtain ⟨hrl, hrc⟩ := bag_zero hbz htz
  have hrl' : n3 ≤ 4096 := by rw [← hr.len]; exact hrl
  have HV := hide fun row => viol_kind (x := x) (rc := cols) (oc := ocols) (rr := rows) (orr := orows) (zs := zs) (row := row)
  obtain ⟨VB, hVB⟩ : ∃ V, violB x cols ocols rows orows zs = V := ⟨_, rfl⟩
  rw [hVB]
  have HVB := hide hVB
  have HE3 := hide hE3
  have HCZ := hide hcz
  have HCOLS := hide hcols
  have HRC := hide hrc
  have HRZ := hide hrz
  clear hE hE1 hE2 hE3 hcz hcols hbz htz hrl hrc hrz hVB k0 k6
  simp only [chkCells]
  go_enter Tryz.func62, Tryz.ntmps62
  have HN := hide hn
  clear hn
  have HN2 := hide hn'
  clear hn'
  have HQ := hide hq
  clear hq
  have HW := hide hw
  clear hw
  have HC := hide hc
  clear hc
  have HO := hide ho
  clear ho
  have HZ := hide hz
  clear hz
  have HR := hide hr
  clear hr
  have HOR := hide hor
  clear hor
  go_wp2_with fail
  obtain ⟨W1, hW1⟩ : ∃ W, W = w.alloc (.cells #[.string x.name, .string x.table, .int .i64 x.kind, .slice A n c, .string x.other, .slice A' n' c', .int .i64 x.low, .int .i64 x.high, .slice A'' n'' c'', .int .i64 x.ln, .int .i64 x.ld, .int .i64 x.mn, .int .i64 x.md, .int .i64 x.policy] 27) := ⟨_, rfl⟩
  obtain ⟨hbW1, SZW1, g0, g1, g2, g3, g4, g5, g6, g7, g8, g9, g10, g11, g12, g13⟩ := boxed14 hW1 rfl
  rw [← hW1]
  clear hW1
  have HN := hide (HN.out.below hbW1)
  have HC := hide (HC.out.below hbW1)
  have SG6 := hide hbW1
  clear hbW1
  have LR := lt_of_cell g0
  obtain ⟨W2, hW2⟩ : ∃ W, W = W1.alloc (.cells #[.string rn, .slice A1 n1 c1, .slice Ak nk ck, .slice A3 n3 c3] 32) := ⟨_, rfl⟩
  obtain ⟨hbW2, SZW2, r0, r1, r2, r3⟩ := boxed4 (b := w.heap.size + 1) hW2 (by rw [SZW1.out])
  rw [← hW2]
  clear hW2
  have HN := hide (HN.out.below hbW2)
  have HC := hide (HC.out.below hbW2)
  obtain ⟨g0, g1, g2, g3, g4, g5, g6, g7, g8, g9, g10, g11, g12, g13, LR⟩ := bats14 hbW2 LR g0 g1 g2 g3 g4 g5 g6 g7 g8 g9 g10 g11 g12 g13
  have SG7 := hide (below_trans SG6.out hbW2)
  clear hbW2
  have L2 := lt_of_cell r0
  obtain ⟨W3, hW3⟩ : ∃ W, W = W2.alloc (.cells #[.string on, .slice A2 n2 c2, .slice Al nl cl, .slice A4 n4 c4] 32) := ⟨_, rfl⟩
  obtain ⟨hbW3, SZW3, s0, s1, s2, s3⟩ := boxed4 (b := w.heap.size + 1 + 1) hW3 (by rw [SZW2.out, SZW1.out])
  rw [← hW3]
  clear hW3
  have HN := hide (HN.out.below hbW3)
  have HC := hide (HC.out.below hbW3)
  obtain ⟨g0, g1, g2, g3, g4, g5, g6, g7, g8, g9, g10, g11, g12, g13, LR⟩ := bats14 hbW3 LR g0 g1 g2 g3 g4 g5 g6 g7 g8 g9 g10 g11 g12 g13
  obtain ⟨r0, r1, r2, r3, L2⟩ := bats4 hbW3 L2 r0 r1 r2 r3
  have SG8 := hide (below_trans SG7.out hbW3)
  clear hbW3
  have L3 := lt_of_cell s0
  obtain ⟨W4, hW4⟩ : ∃ W, W = W3.alloc (.cells #[.slice A5 n5 c5] 65) := ⟨_, rfl⟩
  obtain ⟨hbW4, SZW4, z0⟩ := boxed1 (b := w.heap.size + 1 + 1 + 1) hW4 (by rw [SZW3.out, SZW2.out, SZW1.out])
  rw [← hW4]
  clear hW4
  have HN := hide (HN.out.below hbW4)
  have HC := hide (HC.out.below hbW4)
  obtain ⟨g0, g1, g2, g3, g4, g5, g6, g7, g8, g9, g10, g11, g12, g13, LR⟩ := bats14 hbW4 LR g0 g1 g2 g3 g4 g5 g6 g7 g8 g9 g10 g11 g12 g13
  obtain ⟨r0, r1, r2, r3, L2⟩ := bats4 hbW4 L2 r0 r1 r2 r3
  obtain ⟨s0, s1, s2, s3, L3⟩ := bats4 hbW4 L3 s0 s1 s2 s3
  have SG9 := hide (below_trans SG8.out hbW4)
  clear hbW4
  have L4 := lt_of_cell z0
  obtain ⟨FV, hFV⟩ : ∃ v, v = Value.func (.func 93) #[] #[.pointer (some ⟨w.heap.size + 1, 0, none⟩), .pointer (some ⟨w.heap.size, 0, none⟩)] := ⟨_, rfl⟩
  rw [← hFV]
  have HFV := hide hFV
  clear hFV
  obtain ⟨W5, hW5⟩ : ∃ W, W = W4.alloc (.cells #[FV] 110) := ⟨_, rfl⟩
  obtain ⟨hbW5, SZW5, p0⟩ := boxed1 (b := w.heap.size + 1 + 1 + 1 + 1) hW5 (by rw [SZW4.out, SZW3.out, SZW2.out, SZW1.out])
  rw [← hW5]
  clear hW5
  have HN := hide (HN.out.below hbW5)
  have HC := hide (HC.out.below hbW5)
  obtain ⟨g0, g1, g2, g3, g4, g5, g6, g7, g8, g9, g10, g11, g12, g13, LR⟩ := bats14 hbW5 LR g0 g1 g2 g3 g4 g5 g6 g7 g8 g9 g10 g11 g12 g13
  obtain ⟨r0, r1, r2, r3, L2⟩ := bats4 hbW5 L2 r0 r1 r2 r3
  obtain ⟨s0, s1, s2, s3, L3⟩ := bats4 hbW5 L3 s0 s1 s2 s3
  have z0 := bat hbW5 L4 z0
  have L4 := lt_of_cell z0
  have SG10 := hide (below_trans SG9.out hbW5)
  clear hbW5
  have L5 := lt_of_cell p0
  obtain ⟨hi, hpos, hsing, hoth⟩ := HCOLS.out (by have h9 : x.kind = 2 := (by simpa using q2); rw [usesC, h9]; rfl)
  have HI := hide hi
  clear hi
  have HOW := hide (OwnAt.mk (names := x.cols) (cols := cols) (p0.trans (congrArg some HFV.out)) r1 g3 HC.out HN.out)
  have G6 := hide g6
  have G7 := hide g7
  have GL := hide LR
  have HPOS := hide hpos
  clear hpos hsing hoth
  have HBW := hide SG10.out
  go_wp2
  all_goals (try (exfalso; go_light; simp_all; done))
  go_ret
  exact ⟨⟨_, rfl, 99, [.pointer (some ⟨w.heap.size + 1 + 1 + 1 + 1, 0, none⟩), .pointer (some ⟨w.heap.size, 0, none⟩)], rfl, (fun args W => by go_simp), fun W hW Ar nr cr row hrow hfit => by
    have hp := (pickN_fit HCZ.out HI.out hfit).1
    have hpos := HPOS.out
    have h1 := range_clo W _ _ _ A1 n1 c1 cols A n c x.cols (HOW.out.below hW) hb2 hb0 Ar nr cr row hrow x.low x.high (bat hW GL.out G6.out) (bat hW GL.out G7.out) (by omega)
    rw [← HVB.out, (HV.out row).2.2.1 (by simpa using q2), rangeB]
    exact h1⟩, HBW.out⟩
set_option maxHeartbeats 4000000 in
set_option maxRecDepth 100000 in
theorem violated_r3 (hb0 : n ≤ 4096) (hb1 : n' ≤ 4096) (hb2 : n1 ≤ 4096) (hb3 : n2 ≤ 4096) (hE : allErr x cols ocols rows orows zs = 0) (q0 : (x.kind == 0) = false) (q1 : (x.kind == 1) = false) (q2 : (x.kind == 2) = false) (q3 : (x.kind == 3) = true) :
    Calls Tryz.prog 62 #[.agg (chkCells x A n c A' n' c' A'' n'' c'').toArray, .agg #[.string rn, .slice A1 n1 c1, .slice Ak nk ck, .slice A3 n3 c3], .agg #[.string on, .slice A2 n2 c2, .slice Al nl cl, .slice A4 n4 c4], .slice A5 n5 c5] w
      fun e w' => (∃ fv, e = .returned fv ∧ IsBad w' fv cols (violB x cols ocols rows orows zs)) ∧ Below w.heap.size w w' := by
  obtain ⟨hE1, hE2, hE3⟩ := all_zero hE
  obtain ⟨⟨k0, k6⟩, hcz, hcols⟩ := chk_zero hE1
  obtain ⟨hbz, htz, hrz⟩ := tabErr_zero hE2
  obtain ⟨hrl, hrc⟩ := bag_zero hbz htz
  have hrl' : n3 ≤ 4096 := by rw [← hr.len]; exact hrl
  have HV := hide fun row => viol_kind (x := x) (rc := cols) (oc := ocols) (rr := rows) (orr := orows) (zs := zs) (row := row)
  obtain ⟨VB, hVB⟩ : ∃ V, violB x cols ocols rows orows zs = V := ⟨_, rfl⟩
  rw [hVB]
  have HVB := hide hVB
  have HE3 := hide hE3
  have HCZ := hide hcz
  have HCOLS := hide hcols
  have HRC := hide hrc
  have HRZ := hide hrz
  clear hE hE1 hE2 hE3 hcz hcols hbz htz hrl hrc hrz hVB k0 k6
  simp only [chkCells]
  go_enter Tryz.func62, Tryz.ntmps62
  have HN := hide hn
  clear hn
  have HN2 := hide hn'
  clear hn'
  have HQ := hide hq
  clear hq
  have HW := hide hw
  clear hw
  have HC := hide hc
  clear hc
  have HO := hide ho
  clear ho
  have HZ := hide hz
  clear hz
  have HR := hide hr
  clear hr
  have HOR := hide hor
  clear hor
  go_wp2_with fail
  obtain ⟨W1, hW1⟩ : ∃ W, W = w.alloc (.cells #[.string x.name, .string x.table, .int .i64 x.kind, .slice A n c, .string x.other, .slice A' n' c', .int .i64 x.low, .int .i64 x.high, .slice A'' n'' c'', .int .i64 x.ln, .int .i64 x.ld, .int .i64 x.mn, .int .i64 x.md, .int .i64 x.policy] 27) := ⟨_, rfl⟩
  obtain ⟨hbW1, SZW1, g0, g1, g2, g3, g4, g5, g6, g7, g8, g9, g10, g11, g12, g13⟩ := boxed14 hW1 rfl
  rw [← hW1]
  clear hW1
  have HN := hide (HN.out.below hbW1)
  have HN2 := hide (HN2.out.below hbW1)
  have HC := hide (HC.out.below hbW1)
  have HO := hide (HO.out.below hbW1)
  have HOR := hide (HOR.out.below hbW1)
  have SG11 := hide hbW1
  clear hbW1
  have LR := lt_of_cell g0
  obtain ⟨W2, hW2⟩ : ∃ W, W = W1.alloc (.cells #[.string rn, .slice A1 n1 c1, .slice Ak nk ck, .slice A3 n3 c3] 32) := ⟨_, rfl⟩
  obtain ⟨hbW2, SZW2, r0, r1, r2, r3⟩ := boxed4 (b := w.heap.size + 1) hW2 (by rw [SZW1.out])
  rw [← hW2]
  clear hW2
  have HN := hide (HN.out.below hbW2)
  have HN2 := hide (HN2.out.below hbW2)
  have HC := hide (HC.out.below hbW2)
  have HO := hide (HO.out.below hbW2)
  have HOR := hide (HOR.out.below hbW2)
  obtain ⟨g0, g1, g2, g3, g4, g5, g6, g7, g8, g9, g10, g11, g12, g13, LR⟩ := bats14 hbW2 LR g0 g1 g2 g3 g4 g5 g6 g7 g8 g9 g10 g11 g12 g13
  have SG12 := hide (below_trans SG11.out hbW2)
  clear hbW2
  have L2 := lt_of_cell r0
  obtain ⟨W3, hW3⟩ : ∃ W, W = W2.alloc (.cells #[.string on, .slice A2 n2 c2, .slice Al nl cl, .slice A4 n4 c4] 32) := ⟨_, rfl⟩
  obtain ⟨hbW3, SZW3, s0, s1, s2, s3⟩ := boxed4 (b := w.heap.size + 1 + 1) hW3 (by rw [SZW2.out, SZW1.out])
  rw [← hW3]
  clear hW3
  have HN := hide (HN.out.below hbW3)
  have HN2 := hide (HN2.out.below hbW3)
  have HC := hide (HC.out.below hbW3)
  have HO := hide (HO.out.below hbW3)
  have HOR := hide (HOR.out.below hbW3)
  obtain ⟨g0, g1, g2, g3, g4, g5, g6, g7, g8, g9, g10, g11, g12, g13, LR⟩ := bats14 hbW3 LR g0 g1 g2 g3 g4 g5 g6 g7 g8 g9 g10 g11 g12 g13
  obtain ⟨r0, r1, r2, r3, L2⟩ := bats4 hbW3 L2 r0 r1 r2 r3
  have SG13 := hide (below_trans SG12.out hbW3)
  clear hbW3
  have L3 := lt_of_cell s0
  obtain ⟨W4, hW4⟩ : ∃ W, W = W3.alloc (.cells #[.slice A5 n5 c5] 65) := ⟨_, rfl⟩
  obtain ⟨hbW4, SZW4, z0⟩ := boxed1 (b := w.heap.size + 1 + 1 + 1) hW4 (by rw [SZW3.out, SZW2.out, SZW1.out])
  rw [← hW4]
  clear hW4
  have HN := hide (HN.out.below hbW4)
  have HN2 := hide (HN2.out.below hbW4)
  have HC := hide (HC.out.below hbW4)
  have HO := hide (HO.out.below hbW4)
  have HOR := hide (HOR.out.below hbW4)
  obtain ⟨g0, g1, g2, g3, g4, g5, g6, g7, g8, g9, g10, g11, g12, g13, LR⟩ := bats14 hbW4 LR g0 g1 g2 g3 g4 g5 g6 g7 g8 g9 g10 g11 g12 g13
  obtain ⟨r0, r1, r2, r3, L2⟩ := bats4 hbW4 L2 r0 r1 r2 r3
  obtain ⟨s0, s1, s2, s3, L3⟩ := bats4 hbW4 L3 s0 s1 s2 s3
  have SG14 := hide (below_trans SG13.out hbW4)
  clear hbW4
  have L4 := lt_of_cell z0
  obtain ⟨FV, hFV⟩ : ∃ v, v = Value.func (.func 93) #[] #[.pointer (some ⟨w.heap.size + 1, 0, none⟩), .pointer (some ⟨w.heap.size, 0, none⟩)] := ⟨_, rfl⟩
  rw [← hFV]
  have HFV := hide hFV
  clear hFV
  obtain ⟨W5, hW5⟩ : ∃ W, W = W4.alloc (.cells #[FV] 110) := ⟨_, rfl⟩
  obtain ⟨hbW5, SZW5, p0⟩ := boxed1 (b := w.heap.size + 1 + 1 + 1 + 1) hW5 (by rw [SZW4.out, SZW3.out, SZW2.out, SZW1.out])
  rw [← hW5]
  clear hW5
  have HN := hide (HN.out.below hbW5)
  have HN2 := hide (HN2.out.below hbW5)
  have HC := hide (HC.out.below hbW5)
  have HO := hide (HO.out.below hbW5)
  have HOR := hide (HOR.out.below hbW5)
  obtain ⟨g0, g1, g2, g3, g4, g5, g6, g7, g8, g9, g10, g11, g12, g13, LR⟩ := bats14 hbW5 LR g0 g1 g2 g3 g4 g5 g6 g7 g8 g9 g10 g11 g12 g13
  obtain ⟨r0, r1, r2, r3, L2⟩ := bats4 hbW5 L2 r0 r1 r2 r3
  obtain ⟨s0, s1, s2, s3, L3⟩ := bats4 hbW5 L3 s0 s1 s2 s3
  have z0 := bat hbW5 L4 z0
  have L4 := lt_of_cell z0
  have SG15 := hide (below_trans SG14.out hbW5)
  clear hbW5
  have L5 := lt_of_cell p0
  obtain ⟨hi, hpos, hsing, hoth⟩ := HCOLS.out (by have h9 : x.kind = 3 := (by simpa using q3); rw [usesC, h9]; rfl)
  have HI := hide hi
  clear hi
  have hk3 : x.kind = 3 := by simpa using q3
  obtain ⟨hoc, hio, hlo⟩ := hoth (by rw [usesO, hk3]; rfl)
  have hE3 := HE3.out (by rw [usesO, hk3]; rfl)
  obtain ⟨hbz, htz, hrz⟩ := tabErr_zero hE3
  obtain ⟨hrl, hrc⟩ := bag_zero hbz htz
  have hrl2 : n4 ≤ 4096 := by rw [← HOR.out.len]; exact hrl
  have HOC := hide hoc
  have HIO := hide hio
  have HRZ2 := hide hrz
  have HRC2 := hide hrc
  clear hpos hsing hoth hoc hio hlo hE3 hbz htz hrz hrl hrc hk3
  go_wp2_with fail
  refine (counted_any _ on A2 n2 c2 ocols HO.out Al nl cl A4 n4 c4 orows HOR.out A' n' c' x.ocols HN2.out hb3 hb1 hrl2 HRC2.out).mono ?_
  rintro e w16 ⟨⟨b, rfl, hbm, hS⟩, hb16⟩
  have HN := hide (HN.out.below hb16)
  have HC := hide (HC.out.below hb16)
  obtain ⟨g0, g1, g2, g3, g4, g5, g6, g7, g8, g9, g10, g11, g12, g13, LR⟩ := bats14 hb16 LR g0 g1 g2 g3 g4 g5 g6 g7 g8 g9 g10 g11 g12 g13
  obtain ⟨r0, r1, r2, r3, L2⟩ := bats4 hb16 L2 r0 r1 r2 r3
  obtain ⟨s0, s1, s2, s3, L3⟩ := bats4 hb16 L3 s0 s1 s2 s3
  have z0 := bat hb16 L4 z0
  have L4 := lt_of_cell z0
  have p0 := bat hb16 L5 p0
  have L5 := lt_of_cell p0
  have SG17 := hide (below_trans SG15.out hb16)
  clear hb16
  have HS := hide hS
  clear hS
  obtain ⟨W7, hW7⟩ : ∃ W, W = w16.alloc (.cells #[.map (some b)] 132) := ⟨_, rfl⟩
  have m0 : W7.cell? ⟨w16.heap.size, 0, none⟩ = some (.map (some b)) := by rw [hW7]; simp [go_sem]
  have hb7 : Below w16.heap.size w16 W7 := by rw [hW7]; exact below_alloc
  have HOW := hide (OwnAt.mk (names := x.cols) (cols := cols) (p0.trans (congrArg some HFV.out)) r1 g3 HC.out HN.out)
  have HM0 := hide m0
  have HB7 := hide hb7
  have HBW := hide (below_trans SG17.out hb7)
  clear m0 hb7
  go_wp2
  all_goals (try (exfalso; go_light; simp_all; done))
  rw [← hW7]
  go_ret
  exact ⟨⟨_, rfl, 100, [.pointer (some ⟨w.heap.size + 1 + 1 + 1 + 1, 0, none⟩), .pointer (some ⟨w16.heap.size, 0, none⟩)], rfl, (fun args W => by go_simp), fun W hW Ar nr cr row hrow hfit => by
    have h1 := other_clo W _ _ _ A1 n1 c1 cols A n c x.cols (HOW.out.below (below_trans HB7.out hW)) hb2 hb0 Ar nr cr row hrow w16.heap.size b n4 (bat hW (lt_of_cell HM0.out) HM0.out) _ (HS.out.below (below_trans HB7.out hW))
    obtain ⟨p1, p2, p3⟩ := pickN_fit HCZ.out HI.out hfit
    rw [cnt_grp HOC.out HIO.out HRZ2.out p2 p3, totC_pos (l := grp ocols x.ocols orows (pickN cols x.cols row)) fun y hy => (HRC2.out y (List.mem_filter.1 hy).1).1] at h1
    rw [← HVB.out, (HV.out row).2.2.2.1 (by simpa using q3)]
    exact h1⟩, HBW.out⟩
set_option maxHeartbeats 4000000 in
set_option maxRecDepth 100000 in
theorem violated_r4 (hb0 : n ≤ 4096) (hb1 : n' ≤ 4096) (hb2 : n1 ≤ 4096) (hb3 : n2 ≤ 4096) (hE : allErr x cols ocols rows orows zs = 0) (q0 : (x.kind == 0) = false) (q1 : (x.kind == 1) = false) (q2 : (x.kind == 2) = false) (q3 : (x.kind == 3) = false) (q4 : (x.kind == 4) = true) :
    Calls Tryz.prog 62 #[.agg (chkCells x A n c A' n' c' A'' n'' c'').toArray, .agg #[.string rn, .slice A1 n1 c1, .slice Ak nk ck, .slice A3 n3 c3], .agg #[.string on, .slice A2 n2 c2, .slice Al nl cl, .slice A4 n4 c4], .slice A5 n5 c5] w
      fun e w' => (∃ fv, e = .returned fv ∧ IsBad w' fv cols (violB x cols ocols rows orows zs)) ∧ Below w.heap.size w w' := by
  obtain ⟨hE1, hE2, hE3⟩ := all_zero hE
  obtain ⟨⟨k0, k6⟩, hcz, hcols⟩ := chk_zero hE1
  obtain ⟨hbz, htz, hrz⟩ := tabErr_zero hE2
  obtain ⟨hrl, hrc⟩ := bag_zero hbz htz
  have hrl' : n3 ≤ 4096 := by rw [← hr.len]; exact hrl
  have HV := hide fun row => viol_kind (x := x) (rc := cols) (oc := ocols) (rr := rows) (orr := orows) (zs := zs) (row := row)
  obtain ⟨VB, hVB⟩ : ∃ V, violB x cols ocols rows orows zs = V := ⟨_, rfl⟩
  rw [hVB]
  have HVB := hide hVB
  have HE3 := hide hE3
  have HCZ := hide hcz
  have HCOLS := hide hcols
  have HRC := hide hrc
  have HRZ := hide hrz
  clear hE hE1 hE2 hE3 hcz hcols hbz htz hrl hrc hrz hVB k0 k6
  simp only [chkCells]
  go_enter Tryz.func62, Tryz.ntmps62
  have HN := hide hn
  clear hn
  have HN2 := hide hn'
  clear hn'
  have HQ := hide hq
  clear hq
  have HW := hide hw
  clear hw
  have HC := hide hc
  clear hc
  have HO := hide ho
  clear ho
  have HZ := hide hz
  clear hz
  have HR := hide hr
  clear hr
  have HOR := hide hor
  clear hor
  go_wp2_with fail
  obtain ⟨W1, hW1⟩ : ∃ W, W = w.alloc (.cells #[.string x.name, .string x.table, .int .i64 x.kind, .slice A n c, .string x.other, .slice A' n' c', .int .i64 x.low, .int .i64 x.high, .slice A'' n'' c'', .int .i64 x.ln, .int .i64 x.ld, .int .i64 x.mn, .int .i64 x.md, .int .i64 x.policy] 27) := ⟨_, rfl⟩
  obtain ⟨hbW1, SZW1, g0, g1, g2, g3, g4, g5, g6, g7, g8, g9, g10, g11, g12, g13⟩ := boxed14 hW1 rfl
  rw [← hW1]
  clear hW1
  have HQ := hide (HQ.out.below hbW1)
  have HW := hide (HW.out.below hbW1)
  have HC := hide (HC.out.below hbW1)
  have HZ := hide (HZ.out.below hbW1)
  have SG18 := hide hbW1
  clear hbW1
  have LR := lt_of_cell g0
  obtain ⟨W2, hW2⟩ : ∃ W, W = W1.alloc (.cells #[.string rn, .slice A1 n1 c1, .slice Ak nk ck, .slice A3 n3 c3] 32) := ⟨_, rfl⟩
  obtain ⟨hbW2, SZW2, r0, r1, r2, r3⟩ := boxed4 (b := w.heap.size + 1) hW2 (by rw [SZW1.out])
  rw [← hW2]
  clear hW2
  have HQ := hide (HQ.out.below hbW2)
  have HW := hide (HW.out.below hbW2)
  have HC := hide (HC.out.below hbW2)
  have HZ := hide (HZ.out.below hbW2)
  obtain ⟨g0, g1, g2, g3, g4, g5, g6, g7, g8, g9, g10, g11, g12, g13, LR⟩ := bats14 hbW2 LR g0 g1 g2 g3 g4 g5 g6 g7 g8 g9 g10 g11 g12 g13
  have SG19 := hide (below_trans SG18.out hbW2)
  clear hbW2
  have L2 := lt_of_cell r0
  obtain ⟨W3, hW3⟩ : ∃ W, W = W2.alloc (.cells #[.string on, .slice A2 n2 c2, .slice Al nl cl, .slice A4 n4 c4] 32) := ⟨_, rfl⟩
  obtain ⟨hbW3, SZW3, s0, s1, s2, s3⟩ := boxed4 (b := w.heap.size + 1 + 1) hW3 (by rw [SZW2.out, SZW1.out])
  rw [← hW3]
  clear hW3
  have HQ := hide (HQ.out.below hbW3)
  have HW := hide (HW.out.below hbW3)
  have HC := hide (HC.out.below hbW3)
  have HZ := hide (HZ.out.below hbW3)
  obtain ⟨g0, g1, g2, g3, g4, g5, g6, g7, g8, g9, g10, g11, g12, g13, LR⟩ := bats14 hbW3 LR g0 g1 g2 g3 g4 g5 g6 g7 g8 g9 g10 g11 g12 g13
  obtain ⟨r0, r1, r2, r3, L2⟩ := bats4 hbW3 L2 r0 r1 r2 r3
  have SG20 := hide (below_trans SG19.out hbW3)
  clear hbW3
  have L3 := lt_of_cell s0
  obtain ⟨W4, hW4⟩ : ∃ W, W = W3.alloc (.cells #[.slice A5 n5 c5] 65) := ⟨_, rfl⟩
  obtain ⟨hbW4, SZW4, z0⟩ := boxed1 (b := w.heap.size + 1 + 1 + 1) hW4 (by rw [SZW3.out, SZW2.out, SZW1.out])
  rw [← hW4]
  clear hW4
  have HQ := hide (HQ.out.below hbW4)
  have HW := hide (HW.out.below hbW4)
  have HC := hide (HC.out.below hbW4)
  have HZ := hide (HZ.out.below hbW4)
  obtain ⟨g0, g1, g2, g3, g4, g5, g6, g7, g8, g9, g10, g11, g12, g13, LR⟩ := bats14 hbW4 LR g0 g1 g2 g3 g4 g5 g6 g7 g8 g9 g10 g11 g12 g13
  obtain ⟨r0, r1, r2, r3, L2⟩ := bats4 hbW4 L2 r0 r1 r2 r3
  obtain ⟨s0, s1, s2, s3, L3⟩ := bats4 hbW4 L3 s0 s1 s2 s3
  have SG21 := hide (below_trans SG20.out hbW4)
  clear hbW4
  have L4 := lt_of_cell z0
  obtain ⟨FV, hFV⟩ : ∃ v, v = Value.func (.func 93) #[] #[.pointer (some ⟨w.heap.size + 1, 0, none⟩), .pointer (some ⟨w.heap.size, 0, none⟩)] := ⟨_, rfl⟩
  rw [← hFV]
  have HFV := hide hFV
  clear hFV
  obtain ⟨W5, hW5⟩ : ∃ W, W = W4.alloc (.cells #[FV] 110) := ⟨_, rfl⟩
  obtain ⟨hbW5, SZW5, p0⟩ := boxed1 (b := w.heap.size + 1 + 1 + 1 + 1) hW5 (by rw [SZW4.out, SZW3.out, SZW2.out, SZW1.out])
  rw [← hW5]
  clear hW5
  have HQ := hide (HQ.out.below hbW5)
  have HW := hide (HW.out.below hbW5)
  have HC := hide (HC.out.below hbW5)
  have HZ := hide (HZ.out.below hbW5)
  obtain ⟨g0, g1, g2, g3, g4, g5, g6, g7, g8, g9, g10, g11, g12, g13, LR⟩ := bats14 hbW5 LR g0 g1 g2 g3 g4 g5 g6 g7 g8 g9 g10 g11 g12 g13
  obtain ⟨r0, r1, r2, r3, L2⟩ := bats4 hbW5 L2 r0 r1 r2 r3
  obtain ⟨s0, s1, s2, s3, L3⟩ := bats4 hbW5 L3 s0 s1 s2 s3
  have z0 := bat hbW5 L4 z0
  have L4 := lt_of_cell z0
  have SG22 := hide (below_trans SG21.out hbW5)
  clear hbW5
  have L5 := lt_of_cell p0
  have HCA := hide (ChkAt.mk g0 g1 g2 g3 g4 g5 g6 g7 g8 g9 g10 g11 g12 g13)
  have R1 := hide r1
  have LR2 := hide L2
  have Z0 := hide z0
  have LZ := hide L4
  have HBW := hide SG22.out
  go_wp2
  all_goals (try (exfalso; go_light; simp_all; done))
  go_ret
  exact ⟨⟨_, rfl, 101, [.pointer (some ⟨w.heap.size, 0, none⟩), .pointer (some ⟨w.heap.size + 1, 0, none⟩), .pointer (some ⟨w.heap.size + 1 + 1 + 1, 0, none⟩)], rfl, (fun args W => by go_simp), fun W hW Ar nr cr row hrow hfit => by
    have h1 := cond_clo W _ _ _ x A n c A' n' c' A'' n'' c'' (HCA.out.below hW) A1 n1 c1 cols (bat hW LR2.out R1.out) A5 n5 c5 zs (bat hW LZ.out Z0.out) (HQ.out.below hW) (HW.out.below hW) (HC.out.below hW) (HZ.out.below hW) Ar nr cr row hrow
    rw [← HVB.out, (HV.out row).2.2.2.2.1 (by simpa using q4)]
    exact h1⟩, HBW.out⟩
set_option maxHeartbeats 4000000 in
set_option maxRecDepth 100000 in
theorem violated_any (hb0 : n ≤ 4096) (hb1 : n' ≤ 4096) (hb2 : n1 ≤ 4096) (hb3 : n2 ≤ 4096) (hE : allErr x cols ocols rows orows zs = 0) :
    Calls Tryz.prog 62 #[.agg (chkCells x A n c A' n' c' A'' n'' c'').toArray, .agg #[.string rn, .slice A1 n1 c1, .slice Ak nk ck, .slice A3 n3 c3], .agg #[.string on, .slice A2 n2 c2, .slice Al nl cl, .slice A4 n4 c4], .slice A5 n5 c5] w
      fun e w' => (∃ fv, e = .returned fv ∧ IsBad w' fv cols (violB x cols ocols rows orows zs)) ∧ Below w.heap.size w w' := by
  have hK : ((x.kind == 0) = true) ∨ ((x.kind == 0) = false ∧ (x.kind == 1) = true) ∨ ((x.kind == 0) = false ∧ (x.kind == 1) = false ∧ (x.kind == 2) = true) ∨ ((x.kind == 0) = false ∧ (x.kind == 1) = false ∧ (x.kind == 2) = false ∧ (x.kind == 3) = true)
      ∨ ((x.kind == 0) = false ∧ (x.kind == 1) = false ∧ (x.kind == 2) = false ∧ (x.kind == 3) = false ∧ (x.kind == 4) = true) ∨ ((x.kind == 0) = false ∧ (x.kind == 1) = false ∧ (x.kind == 2) = false ∧ (x.kind == 3) = false ∧ (x.kind == 4) = false) := by
    cases h0 : (x.kind == 0) <;> cases h1 : (x.kind == 1) <;> cases h2 : (x.kind == 2) <;> cases h3 : (x.kind == 3) <;> cases h4 : (x.kind == 4) <;> simp
  rcases hK with q0 | ⟨q0, q1⟩ | ⟨q0, q1, q2⟩ | ⟨q0, q1, q2, q3⟩ | ⟨q0, q1, q2, q3, q4⟩ | ⟨q0, q1, q2, q3, q4⟩
  · exact violated_p w x A n c hn A' n' c' hn' A'' n'' c'' hq hw rn A1 n1 c1 cols hc Ak nk ck A3 n3 c3 rows hr on A2 n2 c2 ocols ho Al nl cl A4 n4 c4 orows hor A5 n5 c5 zs hz hb0 hb1 hb2 hb3 hE (.inl q0)
  · exact violated_r1 w x A n c hn A' n' c' hn' A'' n'' c'' hq hw rn A1 n1 c1 cols hc Ak nk ck A3 n3 c3 rows hr on A2 n2 c2 ocols ho Al nl cl A4 n4 c4 orows hor A5 n5 c5 zs hz hb0 hb1 hb2 hb3 hE q0 q1
  · exact violated_r2 w x A n c hn A' n' c' hn' A'' n'' c'' hq hw rn A1 n1 c1 cols hc Ak nk ck A3 n3 c3 rows hr on A2 n2 c2 ocols ho Al nl cl A4 n4 c4 orows hor A5 n5 c5 zs hz hb0 hb1 hb2 hb3 hE q0 q1 q2
  · exact violated_r3 w x A n c hn A' n' c' hn' A'' n'' c'' hq hw rn A1 n1 c1 cols hc Ak nk ck A3 n3 c3 rows hr on A2 n2 c2 ocols ho Al nl cl A4 n4 c4 orows hor A5 n5 c5 zs hz hb0 hb1 hb2 hb3 hE q0 q1 q2 q3
  · exact violated_r4 w x A n c hn A' n' c' hn' A'' n'' c'' hq hw rn A1 n1 c1 cols hc Ak nk ck A3 n3 c3 rows hr on A2 n2 c2 ocols ho Al nl cl A4 n4 c4 orows hor A5 n5 c5 zs hz hb0 hb1 hb2 hb3 hE q0 q1 q2 q3 q4
  · exact violated_p w x A n c hn A' n' c' hn' A'' n'' c'' hq hw rn A1 n1 c1 cols hc Ak nk ck A3 n3 c3 rows hr on A2 n2 c2 ocols ho Al nl cl A4 n4 c4 orows hor A5 n5 c5 zs hz hb0 hb1 hb2 hb3 hE (.inr ⟨q0, q1, q2, q3, q4⟩)
end
end Go.Proofs.YtggejcekmehocaaGreatDoor
