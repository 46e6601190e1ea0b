/-
  check.Judge. (Printed by gen_jdg.py.)
-/
import Derived.Test.YtggejcekmehocaaGreatDoorSiz
import Derived.Test.YtggejcekmehocaaGreatDoorAppA
namespace Go.Proofs.YtggejcekmehocaaGreatDoor
open Go.RowKit Go.Maps
set_option linter.unusedSimpArgs false
set_option linter.unusedVariables false
structure Ver where
  name : ByteArray
  bad : Bool
  rows : Int
  part : Int
  whole : Int
def Ver.cells (v : Ver) : List Value := [.string v.name, .bool v.bad, .int .i64 v.rows, .int .i64 v.part, .int .i64 v.whole]
def noVer : Ver := ⟨⟨#[]⟩, false, 0, 0, 0⟩
def totAt (cols : List Col) (names : List ByteArray) : Nat := (index cols (names.getD 0 default)).toNat
def verS (c : Chk) (rc oc : List Col) (rr orr : List Ent) (zs : List Zone) : Ver :=
  if c.kind = 5 then ⟨c.name, !withinB (totC (rr.filter fun y => holdsB c.cond rc y.row zs)) (totC rr) c.ln c.ld c.mn c.md, 0, totC (rr.filter fun y => holdsB c.cond rc y.row zs), totC rr⟩
  else if c.kind = 6 then ⟨c.name, colSum (totAt rc c.cols) rr != colSum (totAt oc c.ocols) orr, 0, colSum (totAt rc c.cols) rr, colSum (totAt oc c.ocols) orr⟩
  else ⟨c.name, decide (0 < totC (violS c rc oc rr orr zs).2), totC (violS c rc oc rr orr zs).2, 0, 0⟩
def judgeS (c : Chk) (rc oc : List Col) (rr orr : List Ent) (zs : List Zone) : Int × Ver :=
  if allErr c rc oc rr orr zs ≠ 0 then (allErr c rc oc rr orr zs, noVer) else (0, verS c rc oc rr orr zs)
theorem set_five {w : World} {g : Nat} {u0 u1 u2 u3 u4 v0 v1 v2 v3 v4 : Value} (h0 : w.cell? ⟨g, 0, none⟩ = some u0) (h1 : w.cell? ⟨g, 1, none⟩ = some u1) (h2 : w.cell? ⟨g, 2, none⟩ = some u2) (h3 : w.cell? ⟨g, 3, none⟩ = some u3) (h4 : w.cell? ⟨g, 4, none⟩ = some u4) :
    ∀ j v, [v0, v1, v2, v3, v4][j]? = some v → (((((w.setCell ⟨g, 0, none⟩ v0).setCell ⟨g, 1, none⟩ v1).setCell ⟨g, 2, none⟩ v2).setCell ⟨g, 3, none⟩ v3).setCell ⟨g, 4, none⟩ v4).cell? ⟨g, j, none⟩ = some v := by
  intro j v hv
  match j, hv with
  | 0, hv => simp at hv; subst hv; exact set_far (set_far (set_far (set_far (set_same h0) (.inr (by omega))) (.inr (by omega))) (.inr (by omega))) (.inr (by omega))
  | 1, hv => simp at hv; subst hv; exact set_far (set_far (set_far (set_same (set_far h1 (.inr (by omega)))) (.inr (by omega))) (.inr (by omega))) (.inr (by omega))
  | 2, hv => simp at hv; subst hv; exact set_far (set_far (set_same (set_far (set_far h2 (.inr (by omega))) (.inr (by omega)))) (.inr (by omega))) (.inr (by omega))
  | 3, hv => simp at hv; subst hv; exact set_far (set_same (set_far (set_far (set_far h3 (.inr (by omega))) (.inr (by omega))) (.inr (by omega)))) (.inr (by omega))
  | 4, hv => simp at hv; subst hv; exact set_same (set_far (set_far (set_far (set_far h4 (.inr (by omega))) (.inr (by omega))) (.inr (by omega))) (.inr (by omega)))
structure VerAt (w : World) (g : Nat) (v : Ver) : Prop where
  c0 : w.cell? ⟨g, 0, none⟩ = some (.string v.name)
  c1 : w.cell? ⟨g, 1, none⟩ = some (.bool v.bad)
  c2 : w.cell? ⟨g, 2, none⟩ = some (.int .i64 v.rows)
  c3 : w.cell? ⟨g, 3, none⟩ = some (.int .i64 v.part)
  c4 : w.cell? ⟨g, 4, none⟩ = some (.int .i64 v.whole)
  fz : ∀ o, w.frozen? ⟨g, o, none⟩ = false
theorem VerAt.lt {w : World} {g : Nat} {v : Ver} (h : VerAt w g v) : g < w.heap.size := lt_of_cell h.c0
theorem VerAt.below {w w' : World} {g : Nat} {v : Ver} (h : VerAt w g v) (hb : Below w.heap.size w w') : VerAt w' g v :=
  ⟨bat hb h.lt h.c0, bat hb h.lt h.c1, bat hb h.lt h.c2, bat hb h.lt h.c3, bat hb h.lt h.c4, fun o => ((bcell hb).2 g o h.lt).trans (h.fz o)⟩
theorem frozen_set {w : World} {g : Nat} (h : ∀ o, w.frozen? ⟨g, o, none⟩ = false) (b o : Nat) (u : Value) : ∀ o', (w.setCell ⟨b, o, none⟩ u).frozen? ⟨g, o', none⟩ = false := fun o' => by
  rw [World.frozen?_setCell]; exact h o'
theorem VerAt.set3 {w : World} {g : Nat} {v : Ver} (h : VerAt w g v) (p : Int) : VerAt (w.setCell ⟨g, 3, none⟩ (.int .i64 p)) g { v with part := p } :=
  ⟨set_far h.c0 (.inr (by omega)), set_far h.c1 (.inr (by omega)), set_far h.c2 (.inr (by omega)), set_same h.c3, set_far h.c4 (.inr (by omega)), frozen_set h.fz _ _ _⟩
theorem VerAt.set4 {w : World} {g : Nat} {v : Ver} (h : VerAt w g v) (p : Int) : VerAt (w.setCell ⟨g, 4, none⟩ (.int .i64 p)) g { v with whole := p } :=
  ⟨set_far h.c0 (.inr (by omega)), set_far h.c1 (.inr (by omega)), set_far h.c2 (.inr (by omega)), set_far h.c3 (.inr (by omega)), set_same h.c4, frozen_set h.fz _ _ _⟩
theorem ol_inn {α : Type} [Rep α] {e : TypeId} {B : Nat} {O : Nat → Prop} {T : List TypeId} {w : World} {v : Value} {xs : List α} (h : OL e B O T w v xs) : ∃ A c, v = .slice A xs.length c ∧ In w A xs.length c xs := h.inn
section
variable (w : World) (x : Chk) (A : Option Addr) (n c : Nat) (hn : In w A n c x.cols) (A' : Option Addr) (n' c' : Nat) (hn' : In w A' n' c' x.ocols) (A'' : Option Addr) (n'' c'' : Nat) (hq : In w A'' n'' c'' x.cond) (hw : Words w) (rn : ByteArray) (A1 : Option Addr) (n1 c1 : Nat) (cols : List Col) (hc : In w A1 n1 c1 cols) (Ak : Option Addr) (nk ck : Nat) (A3 : Option Addr) (n3 c3 : Nat) (rows : List Ent) (hr : In w A3 n3 c3 rows) (on : ByteArray) (A2 : Option Addr) (n2 c2 : Nat) (ocols : List Col) (ho : In w A2 n2 c2 ocols) (Al : Option Addr) (nl cl : Nat) (A4 : Option Addr) (n4 c4 : Nat) (orows : List Ent) (hor : In w A4 n4 c4 orows) (A5 : Option Addr) (n5 c5 : Nat) (zs : List Zone) (hz : In w A5 n5 c5 zs) (hb0 : n ≤ 4096) (hb1 : n' ≤ 4096) (hb2 : n1 ≤ 4096) (hb3 : n2 ≤ 4096) (hE : allErr x cols ocols rows orows zs = 0)
include w x A n c hn A' n' c' hn' A'' n'' c'' hq hw rn A1 n1 c1 cols hc Ak nk ck A3 n3 c3 rows hr on A2 n2 c2 ocols ho Al nl cl A4 n4 c4 orows hor A5 n5 c5 zs hz hb0 hb1 hb2 hb3 hE
set_option maxHeartbeats 4000000 in
set_option maxRecDepth 100000 in
theorem judge_total (k5 : (x.kind == 5) = false) (k6 : (x.kind == 6) = true) :
    Calls Tryz.prog 30 #[.agg (chkCells x A n c A' n' c' A'' n'' c'').toArray, .agg #[.string rn, .slice A1 n1 c1, .slice Ak nk ck, .slice A3 n3 c3], .agg #[.string on, .slice A2 n2 c2, .slice Al nl cl, .slice A4 n4 c4], .slice A5 n5 c5] w
      fun e w' => e = .returned (.tuple #[.agg (judgeS x cols ocols rows orows zs).2.cells.toArray, .int .i64 (judgeS x cols ocols rows orows zs).1]) ∧ Below w.heap.size w w' := by
  have HVW := hide fun W hn hn' hq hw hc hr ho hor hz => violations_p W x A n c hn A' n' c' hn' A'' n'' c'' hq hw rn A1 n1 c1 cols hc Ak nk ck A3 n3 c3 rows hr on A2 n2 c2 ocols ho Al nl cl A4 n4 c4 orows hor A5 n5 c5 zs hz hb0 hb1 hb2 hb3 (.inr (by have h : x.kind = 6 := (by simpa using k6); rw [h]; exact ⟨rfl, rfl, rfl, rfl, rfl⟩))
  have HD := hide (show judgeS x cols ocols rows orows zs = if allErr x cols ocols rows orows zs ≠ 0 then (allErr x cols ocols rows orows zs, noVer) else (0, verS x cols ocols rows orows zs) from rfl)
  have HVE := hide (show (violS x cols ocols rows orows zs).1 = allErr x cols ocols rows orows zs from by rw [violS]; split <;> simp_all)
  have HVS := hide (show verS x cols ocols rows orows zs = if x.kind = 5 then ⟨x.name, !withinB (totC (rows.filter fun y => holdsB x.cond cols y.row zs)) (totC rows) x.ln x.ld x.mn x.md, 0, totC (rows.filter fun y => holdsB x.cond cols y.row zs), totC rows⟩
    else if x.kind = 6 then ⟨x.name, colSum (totAt cols x.cols) rows != colSum (totAt ocols x.ocols) orows, 0, colSum (totAt cols x.cols) rows, colSum (totAt ocols x.ocols) orows⟩
    else ⟨x.name, decide (0 < totC (violS x cols ocols rows orows zs).2), totC (violS x cols ocols rows orows zs).2, 0, 0⟩ from rfl)
  obtain ⟨J, hJ⟩ : ∃ J, judgeS x cols ocols rows orows zs = J := ⟨_, rfl⟩
  obtain ⟨VR, hVR⟩ : ∃ J, verS x cols ocols rows orows zs = J := ⟨_, rfl⟩
  rw [hJ, hVR] at HD
  rw [hVR] at HVS
  rw [hJ]
  obtain ⟨VL, hVL⟩ : ∃ l, (violS x cols ocols rows orows zs).2 = l := ⟨_, rfl⟩
  rw [hVL] at HVS HVW
  have HVL := hide hVL
  clear hJ hVR hVL
  obtain ⟨hE1, hE2, hE3⟩ := all_zero hE
  obtain ⟨hk, hcz, hcols⟩ := chk_zero hE1
  obtain ⟨hbz, htz, hrz⟩ := tabErr_zero hE2
  have HJ : Hid (J = (0, VR)) := hide (by rw [HD.out, if_neg (by rw [hE]; simp)])
  have HVLF : Hid (VL = rows.filter fun y => violB x cols ocols rows orows zs y.row) := hide (by rw [← HVL.out, violS, if_neg (by rw [hE]; simp)])
  have HBZ := hide hbz
  rw [hE] at HVE
  have hk6 : x.kind = 6 := by simpa using k6
  obtain ⟨hi1, hp1, _, ho1⟩ := hcols (by rw [usesC, hk6]; rfl)
  obtain ⟨_, hi2, hl2⟩ := ho1 (by rw [usesO, hk6]; rfl)
  have HT1 := hide hE2
  have HT2 := hide (hE3 (by rw [usesO, hk6]; rfl))
  have HRG1 := hide (inds_fit hi1).2.1
  have HRG2 := hide (inds_fit hi2).2.1
  have HPOS := hide hp1
  have HPOS2 := hide (show 0 < x.ocols.length by omega)
  have HK6 := hide hk6
  clear hE hE1 hE2 hE3 hk hcz hcols hbz htz hrz HD hk6 hi1 hp1 ho1 hi2 hl2
  simp only [chkCells] at HVW ⊢
  go_enter Tryz.func30, Tryz.ntmps30
  have HN := hide hn
  clear hn
  have HN2 := hide hn'
  clear hn'
  have HQ := hide hq
  clear hq
  have HW := hide hw
  clear hw
  have HC := hide hc
  clear hc
  have HO := hide ho
  clear ho
  have HZ := hide hz
  clear hz
  have HR := hide hr
  clear hr
  have HOR := hide hor
  clear hor
  go_wp2_with fail
  obtain ⟨W1, hW1⟩ : ∃ W, W = w.alloc (.cells #[.string x.name, .string x.table, .int .i64 x.kind, .slice A n c, .string x.other, .slice A' n' c', .int .i64 x.low, .int .i64 x.high, .slice A'' n'' c'', .int .i64 x.ln, .int .i64 x.ld, .int .i64 x.mn, .int .i64 x.md, .int .i64 x.policy] 27) := ⟨_, rfl⟩
  obtain ⟨hbW1, SZW1, g0, g1, g2, g3, g4, g5, g6, g7, g8, g9, g10, g11, g12, g13⟩ := boxed14 hW1 rfl
  rw [← hW1]
  clear hW1
  have HN := hide (HN.out.below hbW1)
  have HN2 := hide (HN2.out.below hbW1)
  have HQ := hide (HQ.out.below hbW1)
  have HW := hide (HW.out.below hbW1)
  have HC := hide (HC.out.below hbW1)
  have HO := hide (HO.out.below hbW1)
  have HZ := hide (HZ.out.below hbW1)
  have HR := hide (HR.out.below hbW1)
  have HOR := hide (HOR.out.below hbW1)
  have SG16 := hide hbW1
  clear hbW1
  have LR := lt_of_cell g0
  obtain ⟨W2, hW2⟩ : ∃ W, W = W1.alloc (.cells #[.string rn, .slice A1 n1 c1, .slice Ak nk ck, .slice A3 n3 c3] 32) := ⟨_, rfl⟩
  obtain ⟨hbW2, SZW2, r0, r1, r2, r3⟩ := boxed4 (b := w.heap.size + 1) hW2 (by rw [SZW1.out])
  rw [← hW2]
  clear hW2
  have HN := hide (HN.out.below hbW2)
  have HN2 := hide (HN2.out.below hbW2)
  have HQ := hide (HQ.out.below hbW2)
  have HW := hide (HW.out.below hbW2)
  have HC := hide (HC.out.below hbW2)
  have HO := hide (HO.out.below hbW2)
  have HZ := hide (HZ.out.below hbW2)
  have HR := hide (HR.out.below hbW2)
  have HOR := hide (HOR.out.below hbW2)
  obtain ⟨g0, g1, g2, g3, g4, g5, g6, g7, g8, g9, g10, g11, g12, g13, LR⟩ := bats14 hbW2 LR g0 g1 g2 g3 g4 g5 g6 g7 g8 g9 g10 g11 g12 g13
  have SG17 := hide (below_trans SG16.out hbW2)
  clear hbW2
  have L2 := lt_of_cell r0
  obtain ⟨W3, hW3⟩ : ∃ W, W = W2.alloc (.cells #[.string on, .slice A2 n2 c2, .slice Al nl cl, .slice A4 n4 c4] 32) := ⟨_, rfl⟩
  obtain ⟨hbW3, SZW3, s0, s1, s2, s3⟩ := boxed4 (b := w.heap.size + 1 + 1) hW3 (by rw [SZW2.out, SZW1.out])
  rw [← hW3]
  clear hW3
  have HN := hide (HN.out.below hbW3)
  have HN2 := hide (HN2.out.below hbW3)
  have HQ := hide (HQ.out.below hbW3)
  have HW := hide (HW.out.below hbW3)
  have HC := hide (HC.out.below hbW3)
  have HO := hide (HO.out.below hbW3)
  have HZ := hide (HZ.out.below hbW3)
  have HR := hide (HR.out.below hbW3)
  have HOR := hide (HOR.out.below hbW3)
  obtain ⟨g0, g1, g2, g3, g4, g5, g6, g7, g8, g9, g10, g11, g12, g13, LR⟩ := bats14 hbW3 LR g0 g1 g2 g3 g4 g5 g6 g7 g8 g9 g10 g11 g12 g13
  obtain ⟨r0, r1, r2, r3, L2⟩ := bats4 hbW3 L2 r0 r1 r2 r3
  have SG18 := hide (below_trans SG17.out hbW3)
  clear hbW3
  have L3 := lt_of_cell s0
  obtain ⟨W4, hW4⟩ : ∃ W, W = W3.alloc (.cells #[.string ⟨#[]⟩, .bool false, .int .i64 0, .int .i64 0, .int .i64 0] 68) := ⟨_, rfl⟩
  obtain ⟨hbW4, SZW4, z0, z1, z2, z3, z4⟩ := boxed5 (b := w.heap.size + 1 + 1 + 1) hW4 (by rw [SZW3.out, SZW2.out, SZW1.out])
  have RKW4 : Hid (RowBlk W4 (w.heap.size + 1 + 1 + 1) 68 5) := hide (by rw [← SZW1.out, ← SZW2.out, ← SZW3.out, hW4]; exact RowBlk.made _ _ _ _ rfl)
  rw [← hW4]
  clear hW4
  have HN := hide (HN.out.below hbW4)
  have HN2 := hide (HN2.out.below hbW4)
  have HQ := hide (HQ.out.below hbW4)
  have HW := hide (HW.out.below hbW4)
  have HC := hide (HC.out.below hbW4)
  have HO := hide (HO.out.below hbW4)
  have HZ := hide (HZ.out.below hbW4)
  have HR := hide (HR.out.below hbW4)
  have HOR := hide (HOR.out.below hbW4)
  obtain ⟨g0, g1, g2, g3, g4, g5, g6, g7, g8, g9, g10, g11, g12, g13, LR⟩ := bats14 hbW4 LR g0 g1 g2 g3 g4 g5 g6 g7 g8 g9 g10 g11 g12 g13
  obtain ⟨r0, r1, r2, r3, L2⟩ := bats4 hbW4 L2 r0 r1 r2 r3
  obtain ⟨s0, s1, s2, s3, L3⟩ := bats4 hbW4 L3 s0 s1 s2 s3
  have SG19 := hide (below_trans SG18.out hbW4)
  clear hbW4
  have L4 := lt_of_cell z0
  go_wp2_with fail
  refine (HVW.out _ HN.out HN2.out HQ.out HW.out HC.out HR.out HO.out HOR.out HZ.out).mono ?_
  rintro e w20 ⟨⟨bv, rfl, hol⟩, hb20⟩
  have HN := hide (HN.out.below hb20)
  have HN2 := hide (HN2.out.below hb20)
  have HC := hide (HC.out.below hb20)
  have HO := hide (HO.out.below hb20)
  have HR := hide (HR.out.below hb20)
  have HOR := hide (HOR.out.below hb20)
  have RKW4 := hide (RKW4.out.below hb20)
  obtain ⟨g0, g1, g2, g3, g4, g5, g6, g7, g8, g9, g10, g11, g12, g13, LR⟩ := bats14 hb20 LR g0 g1 g2 g3 g4 g5 g6 g7 g8 g9 g10 g11 g12 g13
  obtain ⟨r0, r1, r2, r3, L2⟩ := bats4 hb20 L2 r0 r1 r2 r3
  obtain ⟨s0, s1, s2, s3, L3⟩ := bats4 hb20 L3 s0 s1 s2 s3
  obtain ⟨z0, z1, z2, z3, z4, L4⟩ := bats5 hb20 L4 z0 z1 z2 z3 z4
  have SG21 := hide (below_trans SG19.out hb20)
  clear hb20
  rw [HVE.out]
  obtain ⟨Ab, cb, rfl, hib⟩ := ol_inn hol
  obtain ⟨mb, hmb⟩ : ∃ m, VL.length = m := ⟨_, rfl⟩
  rw [hmb] at hib ⊢
  clear hol hmb
  have HIB := hide hib
  clear hib
  have n0 : 0 < n := by rw [← HN.out.len]; exact HPOS.out
  have n0' : 0 < n' := by rw [← HN2.out.len]; exact HPOS2.out
  obtain ⟨bn, un, nA, rfl, hbn, HXN, m0, _⟩ := HN.out.str n0
  obtain ⟨bm, um, nB, rfl, hbm, HXM, m1, _⟩ := HN2.out.str n0'
  rw [Nat.add_zero] at m0 m1
  have z01 : (0 : Int) < (n : Int) := by omega
  have z02 : (0 : Int) < (n' : Int) := by omega
  have HAT1 : Hid (index cols nA = (totAt cols x.cols : Int) ∧ totAt cols x.cols < cols.length) := hide (by
    have h1 := HRG1.out nA (mem_of_drop HXN.out)
    rw [totAt, getD_dr HXN.out]
    omega)
  have HAT2 : Hid (index ocols nB = (totAt ocols x.ocols : Int) ∧ totAt ocols x.ocols < ocols.length) := hide (by
    have h1 := HRG2.out nB (mem_of_drop HXM.out)
    rw [totAt, getD_dr HXM.out]
    omega)
  have HVR : Hid (VR = ⟨x.name, colSum (totAt cols x.cols) rows != colSum (totAt ocols x.ocols) orows, 0, colSum (totAt cols x.cols) rows, colSum (totAt ocols x.ocols) orows⟩) := hide (by rw [HVS.out, if_neg (by rw [HK6.out]; decide), if_pos HK6.out])
  have HXLR := hide (show ¬ w.heap.size = w20.heap.size from by have := LR; (try simp at this); omega)
  have HXL2 := hide (show ¬ w.heap.size + 1 = w20.heap.size from by have := L2; (try simp at this); omega)
  have HXL3 := hide (show ¬ w.heap.size + 1 + 1 = w20.heap.size from by have := L3; (try simp at this); omega)
  have HXLM := hide (show ¬ bn = w20.heap.size from by omega)
  have HXLM1 := hide (show ¬ bm = w20.heap.size from by omega)
  have LM := lt_of_cell m0
  have LM1 := lt_of_cell m1
  have q0 : ((0 : Int) != 0) = false := by decide
  have HNE := hide (show ¬ w.heap.size + 1 + 1 + 1 = w20.heap.size from by have := L4; (try simp at this); omega)
  go_wp2_with fail
  obtain ⟨W6, hW6⟩ : ∃ W, W = w20.alloc (.cells #[.string x.name, .bool false, .int .i64 0, .int .i64 0, .int .i64 0] 68) := ⟨_, rfl⟩
  obtain ⟨hbW6, SZW6, v0, v1, v2, v3, v4⟩ := boxed5 hW6 rfl
  have RKW6 : Hid (RowBlk W6 (w20.heap.size) 68 5) := hide (by rw [hW6]; exact RowBlk.made _ _ _ _ rfl)
  rw [← hW6]
  clear hW6
  have HC := hide (HC.out.below hbW6)
  have HO := hide (HO.out.below hbW6)
  have HR := hide (HR.out.below hbW6)
  have HOR := hide (HOR.out.below hbW6)
  have RKW4 := hide (RKW4.out.below hbW6)
  obtain ⟨g0, g1, g2, g3, g4, g5, g6, g7, g8, g9, g10, g11, g12, g13, LR⟩ := bats14 hbW6 LR g0 g1 g2 g3 g4 g5 g6 g7 g8 g9 g10 g11 g12 g13
  obtain ⟨r0, r1, r2, r3, L2⟩ := bats4 hbW6 L2 r0 r1 r2 r3
  obtain ⟨s0, s1, s2, s3, L3⟩ := bats4 hbW6 L3 s0 s1 s2 s3
  obtain ⟨z0, z1, z2, z3, z4, L4⟩ := bats5 hbW6 L4 z0 z1 z2 z3 z4
  have m0 := bat hbW6 LM m0
  have LM := lt_of_cell m0
  have m1 := bat hbW6 LM1 m1
  have LM1 := lt_of_cell m1
  have SG22 := hide (below_trans SG21.out hbW6)
  clear hbW6
  have L6 := lt_of_cell v0
  obtain ⟨Q1, hQ1⟩ : ∃ q, colSum (totAt cols x.cols) rows = q := ⟨_, rfl⟩
  obtain ⟨Q2, hQ2⟩ : ∃ q, colSum (totAt ocols x.ocols) orows = q := ⟨_, rfl⟩
  have HTA := hide fun W h1 h2 => total_any W rn A1 n1 c1 cols h1 Ak nk ck A3 n3 c3 rows h2 nA _ HAT1.out.1 HAT1.out.2 HT1.out
  have HTB := hide fun W h1 h2 => total_any W on A2 n2 c2 ocols h1 Al nl cl A4 n4 c4 orows h2 nB _ HAT2.out.1 HAT2.out.2 HT2.out
  rw [hQ1] at HTA HVR
  rw [hQ2] at HTB HVR
  clear hQ1 hQ2
  have Rr0 := hide r0
  have Rr1 := hide r1
  have Rr2 := hide r2
  have Rr3 := hide r3
  have Rs0 := hide s0
  have Rs1 := hide s1
  have Rs2 := hide s2
  have Rs3 := hide s3
  have Rg3 := hide g3
  have Rg5 := hide g5
  have Rm0 := hide m0
  have Rm1 := hide m1
  have RLR := hide LR
  have RL2 := hide L2
  have RL3 := hide L3
  have RLM := hide LM
  have RLM1 := hide LM1
  have Rv0 := hide v0
  have Rv1 := hide v1
  have Rv2 := hide v2
  have Rv3 := hide v3
  have Rv4 := hide v4
  have RL6 := hide L6
  have Rz0 := hide z0
  have Rz1 := hide z1
  have Rz2 := hide z2
  have Rz3 := hide z3
  have Rz4 := hide z4
  have RL4 := hide L4
  have HWB := hide SG22.out
  go_wp2
  have mk0 : True := trivial
  go_region_held3 (fun V => V.cell? ⟨w.heap.size + 1, 0, none⟩ = some (.string rn) ∧ V.cell? ⟨w.heap.size + 1, 1, none⟩ = some (.slice A1 n1 c1) ∧ V.cell? ⟨w.heap.size + 1, 2, none⟩ = some (.slice Ak nk ck) ∧ V.cell? ⟨w.heap.size + 1, 3, none⟩ = some (.slice A3 n3 c3) ∧ V.cell? ⟨w.heap.size + 1 + 1, 0, none⟩ = some (.string on) ∧ V.cell? ⟨w.heap.size + 1 + 1, 1, none⟩ = some (.slice A2 n2 c2) ∧ V.cell? ⟨w.heap.size + 1 + 1, 2, none⟩ = some (.slice Al nl cl) ∧ V.cell? ⟨w.heap.size + 1 + 1, 3, none⟩ = some (.slice A4 n4 c4) ∧ V.cell? ⟨w.heap.size, 3, none⟩ = some (.slice (some ⟨bn, un, none⟩) n c) ∧ V.cell? ⟨w.heap.size, 5, none⟩ = some (.slice (some ⟨bm, um, none⟩) n' c') ∧ V.cell? ⟨bn, un, none⟩ = some (.string nA) ∧ V.cell? ⟨bm, um, none⟩ = some (.string nB)) (first | exact ⟨set_far (set_far (bat HB8.out RL2.out Rr0.out) (.inl HXL2.out)) (.inl HXL2.out), set_far (set_far (bat HB8.out RL2.out Rr1.out) (.inl HXL2.out)) (.inl HXL2.out), set_far (set_far (bat HB8.out RL2.out Rr2.out) (.inl HXL2.out)) (.inl HXL2.out), set_far (set_far (bat HB8.out RL2.out Rr3.out) (.inl HXL2.out)) (.inl HXL2.out), set_far (set_far (bat HB8.out RL3.out Rs0.out) (.inl HXL3.out)) (.inl HXL3.out), set_far (set_far (bat HB8.out RL3.out Rs1.out) (.inl HXL3.out)) (.inl HXL3.out), set_far (set_far (bat HB8.out RL3.out Rs2.out) (.inl HXL3.out)) (.inl HXL3.out), set_far (set_far (bat HB8.out RL3.out Rs3.out) (.inl HXL3.out)) (.inl HXL3.out), set_far (set_far (bat HB8.out RLR.out Rg3.out) (.inl HXLR.out)) (.inl HXLR.out), set_far (set_far (bat HB8.out RLR.out Rg5.out) (.inl HXLR.out)) (.inl HXLR.out), set_far (set_far (bat HB8.out RLM.out Rm0.out) (.inl HXLM.out)) (.inl HXLM.out), set_far (set_far (bat HB8.out RLM1.out Rm1.out) (.inl HXLM1.out)) (.inl HXLM1.out)⟩ | exact ⟨set_far (bat HB8.out RL2.out Rr0.out) (.inl HXL2.out), set_far (bat HB8.out RL2.out Rr1.out) (.inl HXL2.out), set_far (bat HB8.out RL2.out Rr2.out) (.inl HXL2.out), set_far (bat HB8.out RL2.out Rr3.out) (.inl HXL2.out), set_far (bat HB8.out RL3.out Rs0.out) (.inl HXL3.out), set_far (bat HB8.out RL3.out Rs1.out) (.inl HXL3.out), set_far (bat HB8.out RL3.out Rs2.out) (.inl HXL3.out), set_far (bat HB8.out RL3.out Rs3.out) (.inl HXL3.out), set_far (bat HB8.out RLR.out Rg3.out) (.inl HXLR.out), set_far (bat HB8.out RLR.out Rg5.out) (.inl HXLR.out), set_far (bat HB8.out RLM.out Rm0.out) (.inl HXLM.out), set_far (bat HB8.out RLM1.out Rm1.out) (.inl HXLM1.out)⟩ | exact ⟨bat HB8.out RL2.out Rr0.out, bat HB8.out RL2.out Rr1.out, bat HB8.out RL2.out Rr2.out, bat HB8.out RL2.out Rr3.out, bat HB8.out RL3.out Rs0.out, bat HB8.out RL3.out Rs1.out, bat HB8.out RL3.out Rs2.out, bat HB8.out RL3.out Rs3.out, bat HB8.out RLR.out Rg3.out, bat HB8.out RLR.out Rg5.out, bat HB8.out RLM.out Rm0.out, bat HB8.out RLM1.out Rm1.out⟩ | exact ⟨bat HB7.out RL2.out Rr0.out, bat HB7.out RL2.out Rr1.out, bat HB7.out RL2.out Rr2.out, bat HB7.out RL2.out Rr3.out, bat HB7.out RL3.out Rs0.out, bat HB7.out RL3.out Rs1.out, bat HB7.out RL3.out Rs2.out, bat HB7.out RL3.out Rs3.out, bat HB7.out RLR.out Rg3.out, bat HB7.out RLR.out Rg5.out, bat HB7.out RLM.out Rm0.out, bat HB7.out RLM1.out Rm1.out⟩ | exact ⟨r0, r1, r2, r3, s0, s1, s2, s3, g3, g5, m0, m1⟩ | go_keep) (first | (clear mk0; go_at_call 66; refine (HTA.out _ (by exact HC.out.below (Below.refl _ _).drew) (by exact HR.out.below (Below.refl _ _).drew)).mono ?_; rintro e w7 ⟨rfl, hb7⟩; have HB7 := hide (below_undrew hb7); clear hb7; have mk1 : True := trivial) | (clear mk1; go_at_call 66; refine (HTB.out _ (by exact HO.out.below HB7.out) (by exact HOR.out.below HB7.out)).mono ?_; rintro e w8 ⟨rfl, hb8⟩; have HB8 := hide (below_trans HB7.out hb8); have v0 := bat HB8.out RL6.out Rv0.out; have v1 := bat HB8.out RL6.out Rv1.out; have v2 := bat HB8.out RL6.out Rv2.out; have v3 := bat HB8.out RL6.out Rv3.out; have v4 := bat HB8.out RL6.out Rv4.out; have HRK := hide (RKW6.out.below HB8.out); have x0 := HRK.out.frozen 0; have x1 := HRK.out.frozen 1; have x2 := HRK.out.frozen 2; have x3 := HRK.out.frozen 3; have x4 := HRK.out.frozen 4; clear hb8; have mk2 : True := trivial))
  all_goals
    have HRK4 := hide (RKW4.out.below HB8.out)
    have y0 := HRK4.out.frozen 0
    have y1 := HRK4.out.frozen 1
    have y2 := HRK4.out.frozen 2
    have y3 := HRK4.out.frozen 3
    have y4 := HRK4.out.frozen 4
    have z0 := bat HB8.out RL4.out Rz0.out
    have z1 := bat HB8.out RL4.out Rz1.out
    have z2 := bat HB8.out RL4.out Rz2.out
    have z3 := bat HB8.out RL4.out Rz3.out
    have z4 := bat HB8.out RL4.out Rz4.out
    have HNEo := HNE.out
    have HBB := hide (below_trans HWB.out HB8.out)
    have hgl := RL6.out
    go_wp2
    obtain rfl := HJ.out
    obtain rfl := HVR.out
    refine bodyPost_ret (v := .tuple #[.agg (Ver.cells ⟨x.name, Q1 != Q2, 0, Q1, Q2⟩).toArray, .int .i64 0]) (results_cells2 (cs := Ver.cells ⟨x.name, Q1 != Q2, 0, Q1, Q2⟩) rfl _ _ _ _ _ rfl rfl (set_five (set_far (set_far (set_far z0 (.inl HNE.out)) (.inl HNE.out)) (.inl HNE.out)) (set_far (set_far (set_far z1 (.inl HNE.out)) (.inl HNE.out)) (.inl HNE.out)) (set_far (set_far (set_far z2 (.inl HNE.out)) (.inl HNE.out)) (.inl HNE.out)) (set_far (set_far (set_far z3 (.inl HNE.out)) (.inl HNE.out)) (.inl HNE.out)) (set_far (set_far (set_far z4 (.inl HNE.out)) (.inl HNE.out)) (.inl HNE.out))) Tryz.underlying68 rfl (by kernel_rfl)) rfl ⟨rfl, ((((((((HBB.out.setCell (by simp; omega) _).setCell (by simp; omega) _).setCell (by simp; omega) _).setCell (by simp; omega) _).setCell (by simp; omega) _).setCell (by simp; omega) _).setCell (by simp; omega) _).setCell (by simp; omega) _)⟩
set_option maxHeartbeats 4000000 in
set_option maxRecDepth 100000 in
theorem judge_share (k5 : (x.kind == 5) = true) :
    Calls Tryz.prog 30 #[.agg (chkCells x A n c A' n' c' A'' n'' c'').toArray, .agg #[.string rn, .slice A1 n1 c1, .slice Ak nk ck, .slice A3 n3 c3], .agg #[.string on, .slice A2 n2 c2, .slice Al nl cl, .slice A4 n4 c4], .slice A5 n5 c5] w
      fun e w' => e = .returned (.tuple #[.agg (judgeS x cols ocols rows orows zs).2.cells.toArray, .int .i64 (judgeS x cols ocols rows orows zs).1]) ∧ Below w.heap.size w w' := by
  have HVW := hide fun W hn hn' hq hw hc hr ho hor hz => violations_any W x A n c hn A' n' c' hn' A'' n'' c'' hq hw rn A1 n1 c1 cols hc Ak nk ck A3 n3 c3 rows hr on A2 n2 c2 ocols ho Al nl cl A4 n4 c4 orows hor A5 n5 c5 zs hz hb0 hb1 hb2 hb3
  have HD := hide (show judgeS x cols ocols rows orows zs = if allErr x cols ocols rows orows zs ≠ 0 then (allErr x cols ocols rows orows zs, noVer) else (0, verS x cols ocols rows orows zs) from rfl)
  have HVE := hide (show (violS x cols ocols rows orows zs).1 = allErr x cols ocols rows orows zs from by rw [violS]; split <;> simp_all)
  have HVS := hide (show verS x cols ocols rows orows zs = if x.kind = 5 then ⟨x.name, !withinB (totC (rows.filter fun y => holdsB x.cond cols y.row zs)) (totC rows) x.ln x.ld x.mn x.md, 0, totC (rows.filter fun y => holdsB x.cond cols y.row zs), totC rows⟩
    else if x.kind = 6 then ⟨x.name, colSum (totAt cols x.cols) rows != colSum (totAt ocols x.ocols) orows, 0, colSum (totAt cols x.cols) rows, colSum (totAt ocols x.ocols) orows⟩
    else ⟨x.name, decide (0 < totC (violS x cols ocols rows orows zs).2), totC (violS x cols ocols rows orows zs).2, 0, 0⟩ from rfl)
  obtain ⟨J, hJ⟩ : ∃ J, judgeS x cols ocols rows orows zs = J := ⟨_, rfl⟩
  obtain ⟨VR, hVR⟩ : ∃ J, verS x cols ocols rows orows zs = J := ⟨_, rfl⟩
  rw [hJ, hVR] at HD
  rw [hVR] at HVS
  rw [hJ]
  obtain ⟨VL, hVL⟩ : ∃ l, (violS x cols ocols rows orows zs).2 = l := ⟨_, rfl⟩
  rw [hVL] at HVS HVW
  have HVL := hide hVL
  clear hJ hVR hVL
  obtain ⟨hE1, hE2, hE3⟩ := all_zero hE
  obtain ⟨hk, hcz, hcols⟩ := chk_zero hE1
  obtain ⟨hbz, htz, hrz⟩ := tabErr_zero hE2
  have HJ : Hid (J = (0, VR)) := hide (by rw [HD.out, if_neg (by rw [hE]; simp)])
  have HVLF : Hid (VL = rows.filter fun y => violB x cols ocols rows orows zs y.row) := hide (by rw [← HVL.out, violS, if_neg (by rw [hE]; simp)])
  have HBZ := hide hbz
  rw [hE] at HVE
  have HK5 := hide (show x.kind = 5 by simpa using k5)
  have HBDS := hide (bag_bd hbz)
  clear hE hE1 hE2 hE3 hk hcz hcols hbz htz hrz HD
  simp only [chkCells] at HVW ⊢
  go_enter Tryz.func30, Tryz.ntmps30
  have HN := hide hn
  clear hn
  have HN2 := hide hn'
  clear hn'
  have HQ := hide hq
  clear hq
  have HW := hide hw
  clear hw
  have HC := hide hc
  clear hc
  have HO := hide ho
  clear ho
  have HZ := hide hz
  clear hz
  have HR := hide hr
  clear hr
  have HOR := hide hor
  clear hor
  go_wp2_with fail
  obtain ⟨W1, hW1⟩ : ∃ W, W = w.alloc (.cells #[.string x.name, .string x.table, .int .i64 x.kind, .slice A n c, .string x.other, .slice A' n' c', .int .i64 x.low, .int .i64 x.high, .slice A'' n'' c'', .int .i64 x.ln, .int .i64 x.ld, .int .i64 x.mn, .int .i64 x.md, .int .i64 x.policy] 27) := ⟨_, rfl⟩
  obtain ⟨hbW1, SZW1, g0, g1, g2, g3, g4, g5, g6, g7, g8, g9, g10, g11, g12, g13⟩ := boxed14 hW1 rfl
  rw [← hW1]
  clear hW1
  have HN := hide (HN.out.below hbW1)
  have HN2 := hide (HN2.out.below hbW1)
  have HQ := hide (HQ.out.below hbW1)
  have HW := hide (HW.out.below hbW1)
  have HC := hide (HC.out.below hbW1)
  have HO := hide (HO.out.below hbW1)
  have HZ := hide (HZ.out.below hbW1)
  have HR := hide (HR.out.below hbW1)
  have HOR := hide (HOR.out.below hbW1)
  have SG23 := hide hbW1
  clear hbW1
  have LR := lt_of_cell g0
  obtain ⟨W2, hW2⟩ : ∃ W, W = W1.alloc (.cells #[.string rn, .slice A1 n1 c1, .slice Ak nk ck, .slice A3 n3 c3] 32) := ⟨_, rfl⟩
  obtain ⟨hbW2, SZW2, r0, r1, r2, r3⟩ := boxed4 (b := w.heap.size + 1) hW2 (by rw [SZW1.out])
  rw [← hW2]
  clear hW2
  have HN := hide (HN.out.below hbW2)
  have HN2 := hide (HN2.out.below hbW2)
  have HQ := hide (HQ.out.below hbW2)
  have HW := hide (HW.out.below hbW2)
  have HC := hide (HC.out.below hbW2)
  have HO := hide (HO.out.below hbW2)
  have HZ := hide (HZ.out.below hbW2)
  have HR := hide (HR.out.below hbW2)
  have HOR := hide (HOR.out.below hbW2)
  obtain ⟨g0, g1, g2, g3, g4, g5, g6, g7, g8, g9, g10, g11, g12, g13, LR⟩ := bats14 hbW2 LR g0 g1 g2 g3 g4 g5 g6 g7 g8 g9 g10 g11 g12 g13
  have SG24 := hide (below_trans SG23.out hbW2)
  clear hbW2
  have L2 := lt_of_cell r0
  obtain ⟨W3, hW3⟩ : ∃ W, W = W2.alloc (.cells #[.string on, .slice A2 n2 c2, .slice Al nl cl, .slice A4 n4 c4] 32) := ⟨_, rfl⟩
  obtain ⟨hbW3, SZW3, s0, s1, s2, s3⟩ := boxed4 (b := w.heap.size + 1 + 1) hW3 (by rw [SZW2.out, SZW1.out])
  rw [← hW3]
  clear hW3
  have HN := hide (HN.out.below hbW3)
  have HN2 := hide (HN2.out.below hbW3)
  have HQ := hide (HQ.out.below hbW3)
  have HW := hide (HW.out.below hbW3)
  have HC := hide (HC.out.below hbW3)
  have HO := hide (HO.out.below hbW3)
  have HZ := hide (HZ.out.below hbW3)
  have HR := hide (HR.out.below hbW3)
  have HOR := hide (HOR.out.below hbW3)
  obtain ⟨g0, g1, g2, g3, g4, g5, g6, g7, g8, g9, g10, g11, g12, g13, LR⟩ := bats14 hbW3 LR g0 g1 g2 g3 g4 g5 g6 g7 g8 g9 g10 g11 g12 g13
  obtain ⟨r0, r1, r2, r3, L2⟩ := bats4 hbW3 L2 r0 r1 r2 r3
  have SG25 := hide (below_trans SG24.out hbW3)
  clear hbW3
  have L3 := lt_of_cell s0
  obtain ⟨W4, hW4⟩ : ∃ W, W = W3.alloc (.cells #[.string ⟨#[]⟩, .bool false, .int .i64 0, .int .i64 0, .int .i64 0] 68) := ⟨_, rfl⟩
  obtain ⟨hbW4, SZW4, z0, z1, z2, z3, z4⟩ := boxed5 (b := w.heap.size + 1 + 1 + 1) hW4 (by rw [SZW3.out, SZW2.out, SZW1.out])
  have RKW4 : Hid (RowBlk W4 (w.heap.size + 1 + 1 + 1) 68 5) := hide (by rw [← SZW1.out, ← SZW2.out, ← SZW3.out, hW4]; exact RowBlk.made _ _ _ _ rfl)
  rw [← hW4]
  clear hW4
  have HN := hide (HN.out.below hbW4)
  have HN2 := hide (HN2.out.below hbW4)
  have HQ := hide (HQ.out.below hbW4)
  have HW := hide (HW.out.below hbW4)
  have HC := hide (HC.out.below hbW4)
  have HO := hide (HO.out.below hbW4)
  have HZ := hide (HZ.out.below hbW4)
  have HR := hide (HR.out.below hbW4)
  have HOR := hide (HOR.out.below hbW4)
  obtain ⟨g0, g1, g2, g3, g4, g5, g6, g7, g8, g9, g10, g11, g12, g13, LR⟩ := bats14 hbW4 LR g0 g1 g2 g3 g4 g5 g6 g7 g8 g9 g10 g11 g12 g13
  obtain ⟨r0, r1, r2, r3, L2⟩ := bats4 hbW4 L2 r0 r1 r2 r3
  obtain ⟨s0, s1, s2, s3, L3⟩ := bats4 hbW4 L3 s0 s1 s2 s3
  have SG26 := hide (below_trans SG25.out hbW4)
  clear hbW4
  have L4 := lt_of_cell z0
  go_wp2_with fail
  refine (HVW.out _ HN.out HN2.out HQ.out HW.out HC.out HR.out HO.out HOR.out HZ.out).mono ?_
  rintro e w27 ⟨⟨bv, rfl, hol⟩, hb27⟩
  have HQ := hide (HQ.out.below hb27)
  have HW := hide (HW.out.below hb27)
  have HC := hide (HC.out.below hb27)
  have HZ := hide (HZ.out.below hb27)
  have HR := hide (HR.out.below hb27)
  have RKW4 := hide (RKW4.out.below hb27)
  obtain ⟨g0, g1, g2, g3, g4, g5, g6, g7, g8, g9, g10, g11, g12, g13, LR⟩ := bats14 hb27 LR g0 g1 g2 g3 g4 g5 g6 g7 g8 g9 g10 g11 g12 g13
  obtain ⟨r0, r1, r2, r3, L2⟩ := bats4 hb27 L2 r0 r1 r2 r3
  obtain ⟨s0, s1, s2, s3, L3⟩ := bats4 hb27 L3 s0 s1 s2 s3
  obtain ⟨z0, z1, z2, z3, z4, L4⟩ := bats5 hb27 L4 z0 z1 z2 z3 z4
  have SG28 := hide (below_trans SG26.out hb27)
  clear hb27
  rw [HVE.out]
  obtain ⟨Ab, cb, rfl, hib⟩ := ol_inn hol
  obtain ⟨mb, hmb⟩ : ∃ m, VL.length = m := ⟨_, rfl⟩
  rw [hmb] at hib ⊢
  clear hol hmb
  have HIB := hide hib
  clear hib
  have HXLR := hide (show ¬ w.heap.size = w27.heap.size from by have := LR; (try simp at this); omega)
  have HXL2 := hide (show ¬ w.heap.size + 1 = w27.heap.size from by have := L2; (try simp at this); omega)
  have q0 : ((0 : Int) != 0) = false := by decide
  have HNE := hide (show ¬ w.heap.size + 1 + 1 + 1 = w27.heap.size from by have := L4; (try simp at this); omega)
  have HHO := hide fun W hq hw hc Ar nr cr row hr hz => holds_any W x A n c A' n' c' A'' n'' c'' hq hw A1 n1 c1 cols hc Ar nr cr row hr A5 n5 c5 zs hz
  simp only [chkCells] at HHO
  have HVR : Hid (VR = ⟨x.name, !withinB (totC (rows.filter fun y => holdsB x.cond cols y.row zs)) (totC rows) x.ln x.ld x.mn x.md, 0, totC (rows.filter fun y => holdsB x.cond cols y.row zs), totC rows⟩) := hide (by rw [HVS.out, if_pos HK5.out])
  go_wp2_with fail
  obtain ⟨WB, rfl⟩ : ∃ W, W = w27 := ⟨_, rfl⟩
  have HWBS := hide SG28.out.size
  have BQ := hide HQ.out
  have BW := hide HW.out
  have BC := hide HC.out
  have BR := hide HR.out
  have BZ := hide HZ.out
  have HLEN := hide HR.out.len
  have h63 := HR.out.le
  have hn3 : n3 ≤ 4096 := by rw [← HLEN.out]; exact HBDS.out.1
  obtain ⟨W6, hW6⟩ : ∃ W, W = WB.alloc (.cells #[.string x.name, .bool false, .int .i64 0, .int .i64 0, .int .i64 0] 68) := ⟨_, rfl⟩
  obtain ⟨hbW6, SZW6, v0, v1, v2, v3, v4⟩ := boxed5 hW6 rfl
  have FRW6 : Hid (∀ o, W6.frozen? ⟨WB.heap.size, o, none⟩ = false) := hide (fun o => by rw [hW6]; exact frozen_of_row _ _ o _ _ (heap_alloc_new _ _))
  have RKW6 : Hid (RowBlk W6 (WB.heap.size) 68 5) := hide (by rw [hW6]; exact RowBlk.made _ _ _ _ rfl)
  rw [← hW6]
  clear hW6
  have RBW6 := hide hbW6
  clear hbW6
  have HV0 : Hid (VerAt W6 WB.heap.size ⟨x.name, false, 0, 0, 0⟩) := hide ⟨v0, v1, v2, v3, v4, FRW6.out⟩
  clear v0 v1 v2 v3 v4
  go_wp2
  go_loopw [47] (fun i wr => ∃ k : Nat, k ≤ n3 ∧ i = .int .i64 k ∧ VerAt wr WB.heap.size ⟨x.name, false, 0, totC ((rows.take k).filter fun y => holdsB x.cond cols y.row zs), totC (rows.take k)⟩ ∧ Below WB.heap.size WB wr) (fun i _ => n3 - (RowKit.intOf i).toNat)
  case atStart => exact ⟨0, Nat.zero_le _, rfl, HV0.out, RBW6.out⟩
  case round =>
    obtain ⟨k, hk, rfl, hv, hb⟩ := hrel
    have HV := hide hv
    clear hv
    have RKW4 := hide (RKW4.out.below hb)
    obtain ⟨g0, g1, g2, g3, g4, g5, g6, g7, g8, g9, g10, g11, g12, g13, LR⟩ := bats14 hb LR g0 g1 g2 g3 g4 g5 g6 g7 g8 g9 g10 g11 g12 g13
    obtain ⟨r0, r1, r2, r3, L2⟩ := bats4 hb L2 r0 r1 r2 r3
    obtain ⟨s0, s1, s2, s3, L3⟩ := bats4 hb L3 s0 s1 s2 s3
    obtain ⟨z0, z1, z2, z3, z4, L4⟩ := bats5 hb L4 z0 z1 z2 z3 z4
    have SG29 := hide hb
    clear hb
    have HLW := hide SG29.out
    have HBW := hide (below_trans SG28.out SG29.out)
    by_cases hlt : k < n3
    · obtain ⟨b, off, y, rfl, hBb0, HX, Ax, An, Ac, f0, f1, e2, e3⟩ := BR.out.ent hlt
      have hBb : b < wr.heap.size := Nat.lt_of_lt_of_le hBb0 HLW.out.size
      have e0 := bat HLW.out hBb0 f0
      have e1 := bat HLW.out hBb0 f1
      have k0 : (0 : Int) ≤ (k : Int) := by omega
      have k1 : (k : Int) < (n3 : Int) := by omega
      have HRW := hide e2
      have hyc := HBDS.out.2 y (mem_of_drop HX.out)
      have HYM := hide (mem_of_drop HX.out)
      have hbd1 := totC_abs (l := rows.take k) (C := 65536) fun z hz => HBDS.out.2 z (List.mem_of_mem_take hz)
      have hbd2 := totC_abs (l := (rows.take k).filter fun y => holdsB x.cond cols y.row zs) (C := 65536) fun z hz => HBDS.out.2 z (List.mem_of_mem_take (List.mem_filter.1 hz).1)
      have hlk : (rows.take k).length ≤ 4096 := by rw [List.length_take]; omega
      have hlk2 : ((rows.take k).filter fun y => holdsB x.cond cols y.row zs).length ≤ 4096 := Nat.le_trans (List.length_filter_le _ _) hlk
      have HW1 : Hid (totC (rows.take (k + 1)) = totC (rows.take k) + y.count) := hide (by rw [take_snoc HX.out, totC_app]; simp [totC])
      have HP1 : Hid (totC ((rows.take (k + 1)).filter fun y => holdsB x.cond cols y.row zs) = totC ((rows.take k).filter fun y => holdsB x.cond cols y.row zs) + (if holdsB x.cond cols y.row zs = true then y.count else 0)) := hide (by
        rw [take_snoc HX.out, List.filter_append, totC_app]
        by_cases hq : holdsB x.cond cols y.row zs = true
        · simp [hq, totC]
        · simp [hq, totC])
      obtain ⟨FW, hFW⟩ : ∃ q, totC (rows.take k) = q := ⟨_, rfl⟩
      obtain ⟨FP, hFP⟩ : ∃ q, totC ((rows.take k).filter fun y => holdsB x.cond cols y.row zs) = q := ⟨_, rfl⟩
      rw [hFW] at hbd1 HW1 HV
      rw [hFP] at hbd2 HP1 HV
      have hwr : IntKind.i64.wrap (FW + y.count) = FW + y.count := IntWalk.i64_in _ (by omega)
      have hwr2 : IntKind.i64.wrap (FP + y.count) = FP + y.count := IntWalk.i64_in _ (by omega)
      obtain ⟨hB, hhB⟩ : ∃ q, holdsB x.cond cols y.row zs = q := ⟨_, rfl⟩
      rw [hhB] at HP1
      have HHB := hide hhB
      obtain ⟨v0, v1, v2, v3, v4, fz⟩ := HV.out
      have f3 := fz 3
      have f4 := fz 4
      have HVL := hide HV.out.lt
      have hl8 := HLW.out.setCell (p := ⟨WB.heap.size, 4, none⟩) (Nat.le_refl _) (.int .i64 (FW + y.count))
      have HL8 := hide (hl8.alloc hl8.size (.cells #[.slice Ax An Ac, .int .i64 y.count] 61))
      clear hl8
      have HV8 := hide ((HV.out.set4 (FW + y.count)).below (below_alloc (o := .cells #[.slice Ax An Ac, .int .i64 y.count] 61)))
      clear hyc hbd1 hbd2 hlk hlk2 hFW hFP hhB e2 f0 f1 v0 v1 v2 fz hb1
      have hne1 : ¬ w.heap.size = WB.heap.size := HXLR.out
      have hne2 : ¬ w.heap.size + 1 = WB.heap.size := HXL2.out
      have hlt9 := HVL.out
      go_wp2_with fail
      refine (HHO.out _ (by exact BQ.out.below HL8.out) (by exact BW.out.below HL8.out) (by exact BC.out.below HL8.out) _ _ _ y.row (by exact HRW.out.below HL8.out) (by exact BZ.out.below HL8.out)).mono ?_
      rintro e w9 ⟨rfl, hb9⟩
      rw [HHB.out]
      have HL9 := hide (HL8.out.trans (hb9.mono HL8.out.size))
      have HV9 := hide (HV8.out.below hb9)
      have x1 := bat (b := wr.heap.size) (o := 1) (v := .int .i64 y.count) hb9 (by simp) (by simp [go_sem])
      clear hb9 v3 v4 f3 f4 e0 e1
      obtain ⟨v0, v1, v2, v3, v4, fz⟩ := HV9.out
      have f3 := fz 3
      have hlt10 := HV9.out.lt
      clear v0 v1 v2 fz
      cases hB
      · have HN1 : Hid (VerAt w9 WB.heap.size ⟨x.name, false, 0, totC ((rows.take (k + 1)).filter fun y => holdsB x.cond cols y.row zs), totC (rows.take (k + 1))⟩) := hide (by rw [HP1.out, HW1.out]; simpa using HV9.out)
        go_wp2
        go_roundw
        case rel => exact ⟨k + 1, by omega, by go_num, HN1.out, HL9.out⟩
        case measure => simp [RowKit.intOf]; omega
      · have HN1 : Hid (VerAt (w9.setCell ⟨WB.heap.size, 3, none⟩ (.int .i64 (FP + y.count))) WB.heap.size ⟨x.name, false, 0, totC ((rows.take (k + 1)).filter fun y => holdsB x.cond cols y.row zs), totC (rows.take (k + 1))⟩) := hide (by rw [HP1.out, HW1.out]; exact HV9.out.set3 _)
        have HL10 := hide (HL9.out.setCell (p := ⟨WB.heap.size, 3, none⟩) (Nat.le_refl _) (.int .i64 (FP + y.count)))
        go_wp2
        go_roundw
        case rel => exact ⟨k + 1, by omega, by go_num, HN1.out, HL10.out⟩
        case measure => simp [RowKit.intOf]; omega
    · have HT : Hid (rows.take k = rows) := hide (List.take_of_length_le (by rw [HLEN.out]; omega))
      have hv2 := HV.out
      rw [HT.out] at hv2
      obtain ⟨PP, hPP⟩ : ∃ q, totC (rows.filter fun y => holdsB x.cond cols y.row zs) = q := ⟨_, rfl⟩
      obtain ⟨WW, hWW⟩ : ∃ q, totC rows = q := ⟨_, rfl⟩
      rw [hPP, hWW] at hv2 HVR
      have HV2 := hide hv2
      obtain ⟨v0, v1, v2, v3, v4, fz⟩ := hv2
      have hne1 : ¬ w.heap.size = WB.heap.size := HXLR.out
      have HWX := hide fun W => withinX_any W PP WW x.ln x.ld x.mn x.md
      obtain ⟨WI, hWI⟩ : ∃ q, withinB PP WW x.ln x.ld x.mn x.md = q := ⟨_, rfl⟩
      rw [hWI] at HWX HVR
      clear hPP hWW hWI v0 v1 v2 fz HT
      go_wp2_with fail
      refine (HWX.out _).mono ?_
      rintro e w30 ⟨rfl, hb30⟩
      have RKW4 := hide (RKW4.out.below hb30)
      obtain ⟨g0, g1, g2, g3, g4, g5, g6, g7, g8, g9, g10, g11, g12, g13, LR⟩ := bats14 hb30 LR g0 g1 g2 g3 g4 g5 g6 g7 g8 g9 g10 g11 g12 g13
      obtain ⟨r0, r1, r2, r3, L2⟩ := bats4 hb30 L2 r0 r1 r2 r3
      obtain ⟨s0, s1, s2, s3, L3⟩ := bats4 hb30 L3 s0 s1 s2 s3
      obtain ⟨z0, z1, z2, z3, z4, L4⟩ := bats5 hb30 L4 z0 z1 z2 z3 z4
      have LST31 := hide hb30
      have SG31 := hide (below_trans SG29.out hb30)
      clear hb30
      clear v3 v4
      have hv3 := HV2.out.below LST31.out
      have hgl := hv3.lt
      obtain ⟨v0, v1, v2, v3, v4, fz⟩ := hv3
      have x0 := fz 0
      have x1 := fz 1
      have x2 := fz 2
      have x3 := fz 3
      have x4 := fz 4
      have y0 := RKW4.out.frozen 0
      have y1 := RKW4.out.frozen 1
      have y2 := RKW4.out.frozen 2
      have y3 := RKW4.out.frozen 3
      have y4 := RKW4.out.frozen 4
      have HNEo := HNE.out
      have HBB := hide (below_trans SG28.out SG31.out)
      have hws := HWBS.out
      go_wp2
      obtain rfl := HJ.out
      obtain rfl := HVR.out
      refine bodyPost_ret (v := .tuple #[.agg (Ver.cells ⟨x.name, !WI, 0, PP, WW⟩).toArray, .int .i64 0]) (results_cells2 (cs := Ver.cells ⟨x.name, !WI, 0, PP, WW⟩) rfl _ _ _ _ _ rfl rfl (set_five (set_far z0 (.inl HNE.out)) (set_far z1 (.inl HNE.out)) (set_far z2 (.inl HNE.out)) (set_far z3 (.inl HNE.out)) (set_far z4 (.inl HNE.out))) Tryz.underlying68 rfl (by kernel_rfl)) rfl ⟨rfl, ((((((HBB.out.setCell (by simp; omega) _).setCell (by simp; omega) _).setCell (by simp; omega) _).setCell (by simp; omega) _).setCell (by simp; omega) _).setCell (by simp; omega) _)⟩
end
end Go.Proofs.YtggejcekmehocaaGreatDoor
