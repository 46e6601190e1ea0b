/-
  check.violated: the function that reports whether a row violates a row check: unique checks, and checks of no row. (Printed by gen_viol.py.)
-/
import Derived.Laws.EntriesVeiled
import Derived.Test.YtggejcekmehocaaGreatDoorChkA
import Derived.Test.YtggejcekmehocaaGreatDoorCls
namespace Go.Proofs.YtggejcekmehocaaGreatDoor
open Go.RowKit Go.Maps
set_option linter.unusedSimpArgs false
set_option linter.unusedVariables false
theorem cnt_grp {cols : List Col} {names : List ByteArray} {rows : List Ent} {v : List Val} (hc : colsErr cols = 0) (hi : (indsS cols names).1 = 0) (hr : ∀ x ∈ rows, rowErr cols x.row = 0) (hl : v.length ≤ 12) (hv : ∀ u ∈ v, valid u = true) :
    cntT cols names rows (textS v) = totC (grp cols names rows v) := by
  rw [cntT, grp]
  congr 1
  refine List.filter_congr fun x hx => ?_
  obtain ⟨_, h2, h3⟩ := pickN_fit hc hi (hr x hx)
  have h := text_inj h2 h3 hl hv
  cases h4 : sameV (pickN cols names x.row) v
  · have h5 : ¬ pickN cols names x.row = v := fun e => by rw [sameV_iff.2 e] at h4; cases h4
    simpa using fun e => h5 (h.1 e)
  · simpa using h.2 (sameV_iff.1 h4)
def IsBad (w : World) (fv : Value) (rc : List Col) (f : List Val → Bool) : Prop :=
  ∃ (k : Nat) (caps : List Value), fv = .func (.func k) #[] caps.toArray ∧ (∀ args W, (callFunc k args).run Tryz.prog W = .ok (.enter k args) W) ∧ ∀ W, Below w.heap.size w W → ∀ A n c row, In W A n c row → rowErr rc row = 0 →
    Calls Tryz.prog k (.slice A n c :: caps).toArray W fun e w' => e = .returned (.bool (f row)) ∧ Below W.heap.size W w'
theorem IsBad.below {w w1 : World} {fv : Value} {rc : List Col} {f : List Val → Bool} (h : IsBad w fv rc f) (hb : Below w.heap.size w w1) : IsBad w1 fv rc f := by
  obtain ⟨k, caps, h1, h0, h2⟩ := h
  exact ⟨k, caps, h1, h0, fun W hW => h2 W (below_trans hb hW)⟩
theorem viol_kind {x : Chk} {rc oc : List Col} {rr orr : List Ent} {zs : List Zone} {row : List Val} :
    (x.kind = 0 → violB x rc oc rr orr zs row = decide (1 < totC (grp rc x.cols rr (pickN rc x.cols row)))) ∧ (x.kind = 1 → violB x rc oc rr orr zs row = nullIn (pickN rc x.cols row)) ∧
    (x.kind = 2 → violB x rc oc rr orr zs row = rangeB x ((pickN rc x.cols row).getD 0 zeroV)) ∧ (x.kind = 3 → violB x rc oc rr orr zs row = (!nullIn (pickN rc x.cols row) && (grp oc x.ocols orr (pickN rc x.cols row)).isEmpty)) ∧
    (x.kind = 4 → violB x rc oc rr orr zs row = !holdsB x.cond rc row zs) ∧ (¬ x.kind = 0 → ¬ x.kind = 1 → ¬ x.kind = 2 → ¬ x.kind = 3 → ¬ x.kind = 4 → violB x rc oc rr orr zs row = false) := by
  refine ⟨?_, ?_, ?_, ?_, ?_, ?_⟩
  · intro h; simp [violB, h]
  · intro h; simp [violB, h]
  · intro h; simp [violB, h]
  · intro h; simp [violB, h]
  · intro h; simp [violB, h]
  · intro h0 h1 h2 h3 h4; simp [violB, h0, h1, h2, h3, h4]
set_option maxHeartbeats 4000000 in
set_option maxRecDepth 100000 in
theorem violated_p (w : World) (x : Chk) (A : Option Addr) (n c : Nat) (hn : In w A n c x.cols) (A' : Option Addr) (n' c' : Nat) (hn' : In w A' n' c' x.ocols) (A'' : Option Addr) (n'' c'' : Nat) (hq : In w A'' n'' c'' x.cond) (hw : Words w)
    (rn : ByteArray) (A1 : Option Addr) (n1 c1 : Nat) (cols : List Col) (hc : In w A1 n1 c1 cols) (Ak : Option Addr) (nk ck : Nat) (A3 : Option Addr) (n3 c3 : Nat) (rows : List Ent) (hr : In w A3 n3 c3 rows)
    (on : ByteArray) (A2 : Option Addr) (n2 c2 : Nat) (ocols : List Col) (ho : In w A2 n2 c2 ocols) (Al : Option Addr) (nl cl : Nat) (A4 : Option Addr) (n4 c4 : Nat) (orows : List Ent) (hor : In w A4 n4 c4 orows) (A5 : Option Addr) (n5 c5 : Nat) (zs : List Zone) (hz : In w A5 n5 c5 zs) (hb0 : n ≤ 4096) (hb1 : n' ≤ 4096) (hb2 : n1 ≤ 4096) (hb3 : n2 ≤ 4096)
    (hE : allErr x cols ocols rows orows zs = 0) (hK : ((x.kind == 0) = true) ∨ ((x.kind == 0) = false ∧ (x.kind == 1) = false ∧ (x.kind == 2) = false ∧ (x.kind == 3) = false ∧ (x.kind == 4) = false)) :
    Calls Tryz.prog 62 #[.agg (chkCells x A n c A' n' c' A'' n'' c'').toArray, .agg #[.string rn, .slice A1 n1 c1, .slice Ak nk ck, .slice A3 n3 c3], .agg #[.string on, .slice A2 n2 c2, .slice Al nl cl, .slice A4 n4 c4], .slice A5 n5 c5] w
      fun e w' => (∃ fv, e = .returned fv ∧ IsBad w' fv cols (violB x cols ocols rows orows zs)) ∧ Below w.heap.size w w' := by
  obtain ⟨hE1, hE2, hE3⟩ := all_zero hE
  obtain ⟨⟨k0, k6⟩, hcz, hcols⟩ := chk_zero hE1
  obtain ⟨hbz, htz, hrz⟩ := tabErr_zero hE2
  obtain ⟨hrl, hrc⟩ := bag_zero hbz htz
  have hrl' : n3 ≤ 4096 := by rw [← hr.len]; exact hrl
  have HV := hide fun row => viol_kind (x := x) (rc := cols) (oc := ocols) (rr := rows) (orr := orows) (zs := zs) (row := row)
  obtain ⟨VB, hVB⟩ : ∃ V, violB x cols ocols rows orows zs = V := ⟨_, rfl⟩
  rw [hVB]
  have HVB := hide hVB
  have HE3 := hide hE3
  have HCZ := hide hcz
  have HCOLS := hide hcols
  have HRC := hide hrc
  have HRZ := hide hrz
  clear hE hE1 hE2 hE3 hcz hcols hbz htz hrl hrc hrz hVB k0 k6
  simp only [chkCells]
  rcases hK with q0 | ⟨q0, q1, q2, q3, q4⟩
  · go_enter Tryz.func62, Tryz.ntmps62
    have HN := hide hn
    clear hn
    have HN2 := hide hn'
    clear hn'
    have HQ := hide hq
    clear hq
    have HW := hide hw
    clear hw
    have HC := hide hc
    clear hc
    have HO := hide ho
    clear ho
    have HZ := hide hz
    clear hz
    have HR := hide hr
    clear hr
    have HOR := hide hor
    clear hor
    go_wp2_with fail
    obtain ⟨W1, hW1⟩ : ∃ W, W = w.alloc (.cells #[.string x.name, .string x.table, .int .i64 x.kind, .slice A n c, .string x.other, .slice A' n' c', .int .i64 x.low, .int .i64 x.high, .slice A'' n'' c'', .int .i64 x.ln, .int .i64 x.ld, .int .i64 x.mn, .int .i64 x.md, .int .i64 x.policy] 27) := ⟨_, rfl⟩
    obtain ⟨hbW1, SZW1, g0, g1, g2, g3, g4, g5, g6, g7, g8, g9, g10, g11, g12, g13⟩ := boxed14 hW1 rfl
    rw [← hW1]
    clear hW1
    have HN := hide (HN.out.below hbW1)
    have HC := hide (HC.out.below hbW1)
    have HR := hide (HR.out.below hbW1)
    have SG1 := hide hbW1
    clear hbW1
    have LR := lt_of_cell g0
    obtain ⟨W2, hW2⟩ : ∃ W, W = W1.alloc (.cells #[.string rn, .slice A1 n1 c1, .slice Ak nk ck, .slice A3 n3 c3] 32) := ⟨_, rfl⟩
    obtain ⟨hbW2, SZW2, r0, r1, r2, r3⟩ := boxed4 (b := w.heap.size + 1) hW2 (by rw [SZW1.out])
    rw [← hW2]
    clear hW2
    have HN := hide (HN.out.below hbW2)
    have HC := hide (HC.out.below hbW2)
    have HR := hide (HR.out.below hbW2)
    obtain ⟨g0, g1, g2, g3, g4, g5, g6, g7, g8, g9, g10, g11, g12, g13, LR⟩ := bats14 hbW2 LR g0 g1 g2 g3 g4 g5 g6 g7 g8 g9 g10 g11 g12 g13
    have SG2 := hide (below_trans SG1.out hbW2)
    clear hbW2
    have L2 := lt_of_cell r0
    obtain ⟨W3, hW3⟩ : ∃ W, W = W2.alloc (.cells #[.string on, .slice A2 n2 c2, .slice Al nl cl, .slice A4 n4 c4] 32) := ⟨_, rfl⟩
    obtain ⟨hbW3, SZW3, s0, s1, s2, s3⟩ := boxed4 (b := w.heap.size + 1 + 1) hW3 (by rw [SZW2.out, SZW1.out])
    rw [← hW3]
    clear hW3
    have HN := hide (HN.out.below hbW3)
    have HC := hide (HC.out.below hbW3)
    have HR := hide (HR.out.below hbW3)
    obtain ⟨g0, g1, g2, g3, g4, g5, g6, g7, g8, g9, g10, g11, g12, g13, LR⟩ := bats14 hbW3 LR g0 g1 g2 g3 g4 g5 g6 g7 g8 g9 g10 g11 g12 g13
    obtain ⟨r0, r1, r2, r3, L2⟩ := bats4 hbW3 L2 r0 r1 r2 r3
    have SG3 := hide (below_trans SG2.out hbW3)
    clear hbW3
    have L3 := lt_of_cell s0
    obtain ⟨W4, hW4⟩ : ∃ W, W = W3.alloc (.cells #[.slice A5 n5 c5] 65) := ⟨_, rfl⟩
    obtain ⟨hbW4, SZW4, z0⟩ := boxed1 (b := w.heap.size + 1 + 1 + 1) hW4 (by rw [SZW3.out, SZW2.out, SZW1.out])
    rw [← hW4]
    clear hW4
    have HN := hide (HN.out.below hbW4)
    have HC := hide (HC.out.below hbW4)
    have HR := hide (HR.out.below hbW4)
    obtain ⟨g0, g1, g2, g3, g4, g5, g6, g7, g8, g9, g10, g11, g12, g13, LR⟩ := bats14 hbW4 LR g0 g1 g2 g3 g4 g5 g6 g7 g8 g9 g10 g11 g12 g13
    obtain ⟨r0, r1, r2, r3, L2⟩ := bats4 hbW4 L2 r0 r1 r2 r3
    obtain ⟨s0, s1, s2, s3, L3⟩ := bats4 hbW4 L3 s0 s1 s2 s3
    have SG4 := hide (below_trans SG3.out hbW4)
    clear hbW4
    have L4 := lt_of_cell z0
    obtain ⟨FV, hFV⟩ : ∃ v, v = Value.func (.func 93) #[] #[.pointer (some ⟨w.heap.size + 1, 0, none⟩), .pointer (some ⟨w.heap.size, 0, none⟩)] := ⟨_, rfl⟩
    rw [← hFV]
    have HFV := hide hFV
    clear hFV
    obtain ⟨W5, hW5⟩ : ∃ W, W = W4.alloc (.cells #[FV] 110) := ⟨_, rfl⟩
    obtain ⟨hbW5, SZW5, p0⟩ := boxed1 (b := w.heap.size + 1 + 1 + 1 + 1) hW5 (by rw [SZW4.out, SZW3.out, SZW2.out, SZW1.out])
    rw [← hW5]
    clear hW5
    have HN := hide (HN.out.below hbW5)
    have HC := hide (HC.out.below hbW5)
    have HR := hide (HR.out.below hbW5)
    obtain ⟨g0, g1, g2, g3, g4, g5, g6, g7, g8, g9, g10, g11, g12, g13, LR⟩ := bats14 hbW5 LR g0 g1 g2 g3 g4 g5 g6 g7 g8 g9 g10 g11 g12 g13
    obtain ⟨r0, r1, r2, r3, L2⟩ := bats4 hbW5 L2 r0 r1 r2 r3
    obtain ⟨s0, s1, s2, s3, L3⟩ := bats4 hbW5 L3 s0 s1 s2 s3
    have z0 := bat hbW5 L4 z0
    have L4 := lt_of_cell z0
    have SG5 := hide (below_trans SG4.out hbW5)
    clear hbW5
    have L5 := lt_of_cell p0
    obtain ⟨hi, _, _, _⟩ := HCOLS.out (by have h9 : x.kind = 0 := (by simpa using q0); rw [usesC, h9]; rfl)
    have HI := hide hi
    go_wp2_with fail
    refine (counted_any _ rn A1 n1 c1 cols HC.out Ak nk ck A3 n3 c3 rows HR.out A n c x.cols HN.out hb2 hb0 hrl' HRC.out).mono ?_
    rintro e w6 ⟨⟨b, rfl, hbm, hS⟩, hb6⟩
    have HN := hide (HN.out.below hb6)
    have HC := hide (HC.out.below hb6)
    obtain ⟨g0, g1, g2, g3, g4, g5, g6, g7, g8, g9, g10, g11, g12, g13, LR⟩ := bats14 hb6 LR g0 g1 g2 g3 g4 g5 g6 g7 g8 g9 g10 g11 g12 g13
    obtain ⟨r0, r1, r2, r3, L2⟩ := bats4 hb6 L2 r0 r1 r2 r3
    obtain ⟨s0, s1, s2, s3, L3⟩ := bats4 hb6 L3 s0 s1 s2 s3
    have z0 := bat hb6 L4 z0
    have L4 := lt_of_cell z0
    have p0 := bat hb6 L5 p0
    have L5 := lt_of_cell p0
    have SG7 := hide (below_trans SG5.out hb6)
    clear hb6
    have HS := hide hS
    clear hS
    obtain ⟨W7, hW7⟩ : ∃ W, W = w6.alloc (.cells #[.map (some b)] 132) := ⟨_, rfl⟩
    have m0 : W7.cell? ⟨w6.heap.size, 0, none⟩ = some (.map (some b)) := by rw [hW7]; simp [go_sem]
    have hb7 : Below w6.heap.size w6 W7 := by rw [hW7]; exact below_alloc
    have HOW := hide (OwnAt.mk (names := x.cols) (cols := cols) (p0.trans (congrArg some HFV.out)) r1 g3 HC.out HN.out)
    have HM0 := hide m0
    have HB7 := hide hb7
    have HBW := hide (below_trans SG7.out hb7)
    clear m0 hb7
    go_wp2
    all_goals (try (exfalso; go_light; simp_all; done))
    rw [← hW7]
    go_ret
    exact ⟨⟨_, rfl, 95, [.pointer (some ⟨w6.heap.size, 0, none⟩), .pointer (some ⟨w.heap.size + 1 + 1 + 1 + 1, 0, none⟩)], rfl, (fun args W => by go_simp), fun W hW Ar nr cr row hrow hfit => by
      have h1 := unique_clo W _ _ _ A1 n1 c1 cols A n c x.cols (HOW.out.below (below_trans HB7.out hW)) hb2 hb0 Ar nr cr row hrow w6.heap.size b n3 (bat hW (lt_of_cell HM0.out) HM0.out) _ (HS.out.below (below_trans HB7.out hW))
      obtain ⟨p1, p2, p3⟩ := pickN_fit HCZ.out HI.out hfit
      rw [cnt_grp HCZ.out HI.out HRZ.out p2 p3] at h1
      rw [← HVB.out, (HV.out row).1 (by simpa using q0)]
      exact h1⟩, HBW.out⟩
  · go_enter Tryz.func62, Tryz.ntmps62
    have HN := hide hn
    clear hn
    have HN2 := hide hn'
    clear hn'
    have HQ := hide hq
    clear hq
    have HW := hide hw
    clear hw
    have HC := hide hc
    clear hc
    have HO := hide ho
    clear ho
    have HZ := hide hz
    clear hz
    have HR := hide hr
    clear hr
    have HOR := hide hor
    clear hor
    go_wp2_with fail
    obtain ⟨W1, hW1⟩ : ∃ W, W = w.alloc (.cells #[.string x.name, .string x.table, .int .i64 x.kind, .slice A n c, .string x.other, .slice A' n' c', .int .i64 x.low, .int .i64 x.high, .slice A'' n'' c'', .int .i64 x.ln, .int .i64 x.ld, .int .i64 x.mn, .int .i64 x.md, .int .i64 x.policy] 27) := ⟨_, rfl⟩
    obtain ⟨hbW1, SZW1, g0, g1, g2, g3, g4, g5, g6, g7, g8, g9, g10, g11, g12, g13⟩ := boxed14 hW1 rfl
    rw [← hW1]
    clear hW1
    have SG8 := hide hbW1
    clear hbW1
    have LR := lt_of_cell g0
    obtain ⟨W2, hW2⟩ : ∃ W, W = W1.alloc (.cells #[.string rn, .slice A1 n1 c1, .slice Ak nk ck, .slice A3 n3 c3] 32) := ⟨_, rfl⟩
    obtain ⟨hbW2, SZW2, r0, r1, r2, r3⟩ := boxed4 (b := w.heap.size + 1) hW2 (by rw [SZW1.out])
    rw [← hW2]
    clear hW2
    obtain ⟨g0, g1, g2, g3, g4, g5, g6, g7, g8, g9, g10, g11, g12, g13, LR⟩ := bats14 hbW2 LR g0 g1 g2 g3 g4 g5 g6 g7 g8 g9 g10 g11 g12 g13
    have SG9 := hide (below_trans SG8.out hbW2)
    clear hbW2
    have L2 := lt_of_cell r0
    obtain ⟨W3, hW3⟩ : ∃ W, W = W2.alloc (.cells #[.string on, .slice A2 n2 c2, .slice Al nl cl, .slice A4 n4 c4] 32) := ⟨_, rfl⟩
    obtain ⟨hbW3, SZW3, s0, s1, s2, s3⟩ := boxed4 (b := w.heap.size + 1 + 1) hW3 (by rw [SZW2.out, SZW1.out])
    rw [← hW3]
    clear hW3
    obtain ⟨g0, g1, g2, g3, g4, g5, g6, g7, g8, g9, g10, g11, g12, g13, LR⟩ := bats14 hbW3 LR g0 g1 g2 g3 g4 g5 g6 g7 g8 g9 g10 g11 g12 g13
    obtain ⟨r0, r1, r2, r3, L2⟩ := bats4 hbW3 L2 r0 r1 r2 r3
    have SG10 := hide (below_trans SG9.out hbW3)
    clear hbW3
    have L3 := lt_of_cell s0
    obtain ⟨W4, hW4⟩ : ∃ W, W = W3.alloc (.cells #[.slice A5 n5 c5] 65) := ⟨_, rfl⟩
    obtain ⟨hbW4, SZW4, z0⟩ := boxed1 (b := w.heap.size + 1 + 1 + 1) hW4 (by rw [SZW3.out, SZW2.out, SZW1.out])
    rw [← hW4]
    clear hW4
    obtain ⟨g0, g1, g2, g3, g4, g5, g6, g7, g8, g9, g10, g11, g12, g13, LR⟩ := bats14 hbW4 LR g0 g1 g2 g3 g4 g5 g6 g7 g8 g9 g10 g11 g12 g13
    obtain ⟨r0, r1, r2, r3, L2⟩ := bats4 hbW4 L2 r0 r1 r2 r3
    obtain ⟨s0, s1, s2, s3, L3⟩ := bats4 hbW4 L3 s0 s1 s2 s3
    have SG11 := hide (below_trans SG10.out hbW4)
    clear hbW4
    have L4 := lt_of_cell z0
    obtain ⟨FV, hFV⟩ : ∃ v, v = Value.func (.func 93) #[] #[.pointer (some ⟨w.heap.size + 1, 0, none⟩), .pointer (some ⟨w.heap.size, 0, none⟩)] := ⟨_, rfl⟩
    rw [← hFV]
    have HFV := hide hFV
    clear hFV
    obtain ⟨W5, hW5⟩ : ∃ W, W = W4.alloc (.cells #[FV] 110) := ⟨_, rfl⟩
    obtain ⟨hbW5, SZW5, p0⟩ := boxed1 (b := w.heap.size + 1 + 1 + 1 + 1) hW5 (by rw [SZW4.out, SZW3.out, SZW2.out, SZW1.out])
    rw [← hW5]
    clear hW5
    obtain ⟨g0, g1, g2, g3, g4, g5, g6, g7, g8, g9, g10, g11, g12, g13, LR⟩ := bats14 hbW5 LR g0 g1 g2 g3 g4 g5 g6 g7 g8 g9 g10 g11 g12 g13
    obtain ⟨r0, r1, r2, r3, L2⟩ := bats4 hbW5 L2 r0 r1 r2 r3
    obtain ⟨s0, s1, s2, s3, L3⟩ := bats4 hbW5 L3 s0 s1 s2 s3
    have z0 := bat hbW5 L4 z0
    have L4 := lt_of_cell z0
    have SG12 := hide (below_trans SG11.out hbW5)
    clear hbW5
    have L5 := lt_of_cell p0
    have HBW := hide SG12.out
    go_wp2
    all_goals (try (exfalso; go_light; simp_all; done))
    go_ret
    exact ⟨⟨_, rfl, 102, [], rfl, (fun args W => by go_simp), fun W hW Ar nr cr row hrow hfit => by
      have h1 := none_clo W (.slice Ar nr cr)
      rw [← HVB.out, (HV.out row).2.2.2.2.2 (by simpa using q0) (by simpa using q1) (by simpa using q2) (by simpa using q3) (by simpa using q4)]
      exact h1⟩, HBW.out⟩
end Go.Proofs.YtggejcekmehocaaGreatDoor
