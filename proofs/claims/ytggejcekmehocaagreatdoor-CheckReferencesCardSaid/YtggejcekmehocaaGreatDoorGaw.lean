/-
  warehouseref28.total. (Printed by gen_totr.py.) check.Explain for unique checks. (Printed by gen_exp0.py.) Plain law: what the closed example of chapter 28 gives. No program is in sight.
-/
import Derived.Deep.DeepCutAuto
import Derived.Deep.DrawnRows
import Derived.Test.YtggejcekmehocaaGreatDoorSiz
import Derived.Test.YtggejcekmehocaaGreatDoorGas
import Derived.Test.YtggejcekmehocaaGreatDoorGau
import Derived.Test.YtggejcekmehocaaGreatDoorJdg
import Derived.Test.YtggejcekmehocaaGreatDoorGac
namespace Go.Proofs.YtggejcekmehocaaGreatDoor
open Go.RowKit
set_option linter.unusedSimpArgs false
set_option linter.unusedVariables false
attribute [local go_sem ↓] Go.wp_at_zero Go.wp_at_succ
theorem inds_one {cols : List Col} {nm : ByteArray} (h : 0 ≤ index cols nm) : (indsS cols [nm]).1 = 0 := by
  have h1 : indErr cols [nm] = 0 := by simp [indErr, firstErr, indF, hasStr]; omega
  rw [indsS, if_neg (by omega)]
end Go.Proofs.YtggejcekmehocaaGreatDoor

namespace Go.Proofs.YtggejcekmehocaaGreatDoor
open Go.RowKit Go.Maps
set_option linter.unusedSimpArgs false
set_option linter.unusedVariables false
attribute [local go_sem ↓] Go.wp_at_zero Go.wp_at_succ
structure Rsn where
  name : ByteArray
  values : List Val
  rows : List (List Val)
def noRsn : Rsn := ⟨⟨#[]⟩, [], []⟩
def expRows (cols : List Col) (names : List ByteArray) (rows : List Ent) (row pv : List Val) : List (List Val) := (rows.filter fun y => !sameV y.row row && sameV (pickN cols names y.row) pv).map Ent.row
def expS (c : Chk) (rc oc : List Col) (rr orr : List Ent) (zs : List Zone) (row : List Val) : Int × Rsn :=
  if allErr c rc oc rr orr zs ≠ 0 then (allErr c rc oc rr orr zs, noRsn) else if cntF (violS c rc oc rr orr zs).2 row = 0 then (13, noRsn)
  else (0, ⟨c.name, pickN rc c.cols row, expRows rc c.cols rr row (pickN rc c.cols row)⟩)
instance : One (List Val) := ⟨by rintro w S cs a ⟨A, n, c, rfl, _⟩ u hu; simp at hu; subst hu; rfl⟩
theorem elem_rows : Elem Tryz.prog 103 59 1 24 := elem_mk (.slice none 0 0) Tryz.underlying103 (by kernel_rfl) rfl (by decide)
theorem OL.setBlk {α : Type} [Rep α] {e : TypeId} {B : Nat} {O : Nat → Prop} {T : List TypeId} {w : World} {v : Value} {xs : List α} (h : OL e B O T w v xs) {t g : Nat} (hg : TyAt w t g) (hB : B ≤ g ∨ ∀ k, ¬ O k) (hne : t ≠ e) (hT : t ∉ T) (o : Nat) (u : Value) : OL e B O T (w.setCell ⟨g, o, none⟩ u) v xs :=
  h.kept (fun k hk => Below.heap_setCell _ _ _ k (fun q => by
    have q : k = g := q
    subst q
    rcases hk with (⟨ho, hk⟩ | ⟨_, t', ht', hk⟩) | hk
    · rcases hB with hB | hB
      · omega
      · exact hB _ ho
    · exact TyAt.ne hg hk (fun e' => hT (e' ▸ ht')) rfl
    · exact TyAt.ne hg (h.ty hk).2 hne rfl)) (by simp [World.setCell])
theorem expRows_snoc (cols : List Col) (names : List ByteArray) (l : List Ent) (y : Ent) (row pv : List Val) : expRows cols names (l ++ [y]) row pv = expRows cols names l row pv ++ (if (!sameV y.row row && sameV (pickN cols names y.row) pv) = true then [y.row] else []) := by
  rw [expRows, expRows, List.filter_append, List.map_append]
  congr 1
  by_cases h : (!sameV y.row row && sameV (pickN cols names y.row) pv) = true
  · rw [if_pos h]; simp [h]
  · rw [if_neg h]; simp [h]
structure RsnAt (w : World) (g : Nat) (nm : ByteArray) (A : Option Addr) (n c : Nat) (v : Value) : Prop where
  c0 : w.cell? ⟨g, 0, none⟩ = some (.string nm)
  c1 : w.cell? ⟨g, 1, none⟩ = some (.slice A n c)
  c2 : w.cell? ⟨g, 2, none⟩ = some v
  fz : w.frozen? ⟨g, 2, none⟩ = false
  ty : TyAt w 105 g
theorem RsnAt.lt {w : World} {g : Nat} {nm : ByteArray} {A : Option Addr} {n c : Nat} {v : Value} (h : RsnAt w g nm A n c v) : g < w.heap.size := lt_of_cell h.c0
theorem RsnAt.below {w w' : World} {g : Nat} {nm : ByteArray} {A : Option Addr} {n c : Nat} {v : Value} (h : RsnAt w g nm A n c v) (hb : Below w.heap.size w w') : RsnAt w' g nm A n c v :=
  ⟨bat hb h.lt h.c0, bat hb h.lt h.c1, bat hb h.lt h.c2, ((bcell hb).2 g 2 h.lt).trans h.fz, h.ty.below hb⟩
theorem RsnAt.grown {w w' : World} {g : Nat} {nm : ByteArray} {A : Option Addr} {n c : Nat} {v : Value} (h : RsnAt w g nm A n c v) {row : Option Nat} (hg : w.grownBy w' row) (hr : some g ≠ row) : RsnAt w' g nm A n c v := by
  have hb := hg.block g h.lt hr
  refine ⟨(World.cell?_of_block (a := ⟨g, 0, none⟩) hb).trans h.c0, (World.cell?_of_block (a := ⟨g, 1, none⟩) hb).trans h.c1, (World.cell?_of_block (a := ⟨g, 2, none⟩) hb).trans h.c2, ?_, ?_⟩
  · obtain ⟨c, hc⟩ := h.ty
    exact frozen_of_row w' g 2 c _ (hb.trans hc)
  · obtain ⟨c, hc⟩ := h.ty
    exact ⟨c, hb.trans hc⟩
theorem RsnAt.set2 {w : World} {g : Nat} {nm : ByteArray} {A : Option Addr} {n c : Nat} {v : Value} (h : RsnAt w g nm A n c v) (u : Value) : RsnAt (w.setCell ⟨g, 2, none⟩ u) g nm A n c u :=
  ⟨set_far h.c0 (.inr (by omega)), set_far h.c1 (.inr (by omega)), set_same h.c2, by rw [World.frozen?_setCell]; exact h.fz, h.ty.set _ _ _⟩
set_option maxHeartbeats 4000000 in
set_option maxRecDepth 100000 in
theorem explain_uniq (w : World) (x : Chk) (A : Option Addr) (n c : Nat) (hn : In w A n c x.cols) (A' : Option Addr) (n' c' : Nat) (hn' : In w A' n' c' x.ocols) (A'' : Option Addr) (n'' c'' : Nat) (hq : In w A'' n'' c'' x.cond) (hw : Words w)
    (rn : ByteArray) (A1 : Option Addr) (n1 c1 : Nat) (cols : List Col) (hc : In w A1 n1 c1 cols) (Ak : Option Addr) (nk ck : Nat) (A3 : Option Addr) (n3 c3 : Nat) (rows : List Ent) (hr : In w A3 n3 c3 rows)
    (on : ByteArray) (A2 : Option Addr) (n2 c2 : Nat) (ocols : List Col) (ho : In w A2 n2 c2 ocols) (Al : Option Addr) (nl cl : Nat) (A4 : Option Addr) (n4 c4 : Nat) (orows : List Ent) (hor : In w A4 n4 c4 orows) (A5 : Option Addr) (n5 c5 : Nat) (zs : List Zone) (hz : In w A5 n5 c5 zs) (hb0 : n ≤ 4096) (hb1 : n' ≤ 4096) (hb2 : n1 ≤ 4096) (hb3 : n2 ≤ 4096) (Ar : Option Addr) (nr cr : Nat) (row : List Val) (hrow : In w Ar nr cr row) (hE : allErr x cols ocols rows orows zs = 0) (hC : ¬ cntF (violS x cols ocols rows orows zs).2 row = 0) (hk : x.kind = 0) :
    Calls Tryz.prog 60 #[.agg (chkCells x A n c A' n' c' A'' n'' c'').toArray, .agg #[.string rn, .slice A1 n1 c1, .slice Ak nk ck, .slice A3 n3 c3], .agg #[.string on, .slice A2 n2 c2, .slice Al nl cl, .slice A4 n4 c4], .slice A5 n5 c5, .slice Ar nr cr] w
      fun e w' => (∃ v7 v8, e = .returned (.tuple #[.agg #[.string (expS x cols ocols rows orows zs row).2.name, v7, v8], .int .i64 (expS x cols ocols rows orows zs row).1]) ∧ OL 74 w.heap.size (fun _ => False) [] w' v7 (expS x cols ocols rows orows zs row).2.values ∧ OL 59 w.heap.size (fun _ => False) [74] w' v8 (expS x cols ocols rows orows zs row).2.rows) ∧ Below w.heap.size w w' := by
  have HVW := hide fun W hn hn' hq hw hc hr ho hor hz => violations_p W x A n c hn A' n' c' hn' A'' n'' c'' hq hw rn A1 n1 c1 cols hc Ak nk ck A3 n3 c3 rows hr on A2 n2 c2 ocols ho Al nl cl A4 n4 c4 orows hor A5 n5 c5 zs hz hb0 hb1 hb2 hb3 (.inl (by rw [hk]; rfl))
  have HD := hide (show expS x cols ocols rows orows zs row = if allErr x cols ocols rows orows zs ≠ 0 then (allErr x cols ocols rows orows zs, noRsn) else if cntF (violS x cols ocols rows orows zs).2 row = 0 then (13, noRsn) else (0, ⟨x.name, pickN cols x.cols row, expRows cols x.cols rows row (pickN cols x.cols row)⟩) from rfl)
  have HVE := hide (show (violS x cols ocols rows orows zs).1 = allErr x cols ocols rows orows zs from by rw [violS]; split <;> simp_all)
  obtain ⟨J, hJ⟩ : ∃ J, expS x cols ocols rows orows zs row = J := ⟨_, rfl⟩
  obtain ⟨VL, hVL⟩ : ∃ l, (violS x cols ocols rows orows zs).2 = l := ⟨_, rfl⟩
  rw [hJ, hVL] at HD
  rw [hVL] at HVW hC
  rw [hJ]
  clear hJ hVL
  have HK := hide hk
  have k4 : (x.kind == 4) = false := by rw [hk]; rfl
  have k0 : (x.kind != 0) = false := by rw [hk]; rfl
  obtain ⟨_, hE2, _⟩ := all_zero hE
  obtain ⟨hbz, htz, hrz⟩ := tabErr_zero hE2
  have HRL := hide (bag_zero hbz htz)
  have HRZ := hide hrz
  have HJ : Hid (J = (0, ⟨x.name, pickN cols x.cols row, expRows cols x.cols rows row (pickN cols x.cols row)⟩)) := hide (by rw [HD.out, if_neg (by rw [hE]; simp), if_neg hC])
  rw [hE] at HVE
  clear hE hk hE2 hbz htz hrz HD
  simp only [chkCells] at HVW ⊢
  go_enter Tryz.func60, Tryz.ntmps60
  have HN := hide hn
  clear hn
  have HN2 := hide hn'
  clear hn'
  have HQ := hide hq
  clear hq
  have HW := hide hw
  clear hw
  have HC := hide hc
  clear hc
  have HO := hide ho
  clear ho
  have HZ := hide hz
  clear hz
  have HR := hide hr
  clear hr
  have HOR := hide hor
  clear hor
  have HROW := hide hrow
  clear hrow
  go_wp2_with fail
  obtain ⟨W1, hW1⟩ : ∃ W, W = w.alloc (.cells #[.string x.name, .string x.table, .int .i64 x.kind, .slice A n c, .string x.other, .slice A' n' c', .int .i64 x.low, .int .i64 x.high, .slice A'' n'' c'', .int .i64 x.ln, .int .i64 x.ld, .int .i64 x.mn, .int .i64 x.md, .int .i64 x.policy] 27) := ⟨_, rfl⟩
  obtain ⟨hbW1, SZW1, g0, g1, g2, g3, g4, g5, g6, g7, g8, g9, g10, g11, g12, g13⟩ := boxed14 hW1 rfl
  rw [← hW1]
  clear hW1
  have HN := hide (HN.out.below hbW1)
  have HN2 := hide (HN2.out.below hbW1)
  have HQ := hide (HQ.out.below hbW1)
  have HW := hide (HW.out.below hbW1)
  have HC := hide (HC.out.below hbW1)
  have HO := hide (HO.out.below hbW1)
  have HZ := hide (HZ.out.below hbW1)
  have HR := hide (HR.out.below hbW1)
  have HOR := hide (HOR.out.below hbW1)
  have HROW := hide (HROW.out.below hbW1)
  have SG15 := hide hbW1
  clear hbW1
  have LR := lt_of_cell g0
  obtain ⟨W2, hW2⟩ : ∃ W, W = W1.alloc (.cells #[.string rn, .slice A1 n1 c1, .slice Ak nk ck, .slice A3 n3 c3] 32) := ⟨_, rfl⟩
  obtain ⟨hbW2, SZW2, r0, r1, r2, r3⟩ := boxed4 (b := w.heap.size + 1) hW2 (by rw [SZW1.out])
  rw [← hW2]
  clear hW2
  have HN := hide (HN.out.below hbW2)
  have HN2 := hide (HN2.out.below hbW2)
  have HQ := hide (HQ.out.below hbW2)
  have HW := hide (HW.out.below hbW2)
  have HC := hide (HC.out.below hbW2)
  have HO := hide (HO.out.below hbW2)
  have HZ := hide (HZ.out.below hbW2)
  have HR := hide (HR.out.below hbW2)
  have HOR := hide (HOR.out.below hbW2)
  have HROW := hide (HROW.out.below hbW2)
  obtain ⟨g0, g1, g2, g3, g4, g5, g6, g7, g8, g9, g10, g11, g12, g13, LR⟩ := bats14 hbW2 LR g0 g1 g2 g3 g4 g5 g6 g7 g8 g9 g10 g11 g12 g13
  have SG16 := hide (below_trans SG15.out hbW2)
  clear hbW2
  have L2 := lt_of_cell r0
  obtain ⟨W3, hW3⟩ : ∃ W, W = W2.alloc (.cells #[.string on, .slice A2 n2 c2, .slice Al nl cl, .slice A4 n4 c4] 32) := ⟨_, rfl⟩
  obtain ⟨hbW3, SZW3, s0, s1, s2, s3⟩ := boxed4 (b := w.heap.size + 1 + 1) hW3 (by rw [SZW2.out, SZW1.out])
  rw [← hW3]
  clear hW3
  have HN := hide (HN.out.below hbW3)
  have HN2 := hide (HN2.out.below hbW3)
  have HQ := hide (HQ.out.below hbW3)
  have HW := hide (HW.out.below hbW3)
  have HC := hide (HC.out.below hbW3)
  have HO := hide (HO.out.below hbW3)
  have HZ := hide (HZ.out.below hbW3)
  have HR := hide (HR.out.below hbW3)
  have HOR := hide (HOR.out.below hbW3)
  have HROW := hide (HROW.out.below hbW3)
  obtain ⟨g0, g1, g2, g3, g4, g5, g6, g7, g8, g9, g10, g11, g12, g13, LR⟩ := bats14 hbW3 LR g0 g1 g2 g3 g4 g5 g6 g7 g8 g9 g10 g11 g12 g13
  obtain ⟨r0, r1, r2, r3, L2⟩ := bats4 hbW3 L2 r0 r1 r2 r3
  have SG17 := hide (below_trans SG16.out hbW3)
  clear hbW3
  have L3 := lt_of_cell s0
  obtain ⟨W4, hW4⟩ : ∃ W, W = W3.alloc (.cells #[.string ⟨#[]⟩, .slice none 0 0, .slice none 0 0] 105) := ⟨_, rfl⟩
  obtain ⟨hbW4, SZW4, z0, z1, z2⟩ := boxed3 (b := w.heap.size + 1 + 1 + 1) hW4 (by rw [SZW3.out, SZW2.out, SZW1.out])
  have RKW4 : Hid (RowBlk W4 (w.heap.size + 1 + 1 + 1) 105 3) := hide (by rw [← SZW1.out, ← SZW2.out, ← SZW3.out, hW4]; exact RowBlk.made _ _ _ _ rfl)
  rw [← hW4]
  clear hW4
  have HN := hide (HN.out.below hbW4)
  have HN2 := hide (HN2.out.below hbW4)
  have HQ := hide (HQ.out.below hbW4)
  have HW := hide (HW.out.below hbW4)
  have HC := hide (HC.out.below hbW4)
  have HO := hide (HO.out.below hbW4)
  have HZ := hide (HZ.out.below hbW4)
  have HR := hide (HR.out.below hbW4)
  have HOR := hide (HOR.out.below hbW4)
  have HROW := hide (HROW.out.below hbW4)
  obtain ⟨g0, g1, g2, g3, g4, g5, g6, g7, g8, g9, g10, g11, g12, g13, LR⟩ := bats14 hbW4 LR g0 g1 g2 g3 g4 g5 g6 g7 g8 g9 g10 g11 g12 g13
  obtain ⟨r0, r1, r2, r3, L2⟩ := bats4 hbW4 L2 r0 r1 r2 r3
  obtain ⟨s0, s1, s2, s3, L3⟩ := bats4 hbW4 L3 s0 s1 s2 s3
  have SG18 := hide (below_trans SG17.out hbW4)
  clear hbW4
  have L4 := lt_of_cell z0
  go_wp2_with fail
  refine (HVW.out _ HN.out HN2.out HQ.out HW.out HC.out HR.out HO.out HOR.out HZ.out).mono ?_
  rintro e w19 ⟨⟨bv, rfl, hol⟩, hb19⟩
  have HN := hide (HN.out.below hb19)
  have HC := hide (HC.out.below hb19)
  have HR := hide (HR.out.below hb19)
  have HROW := hide (HROW.out.below hb19)
  have RKW4 := hide (RKW4.out.below hb19)
  obtain ⟨g0, g1, g2, g3, g4, g5, g6, g7, g8, g9, g10, g11, g12, g13, LR⟩ := bats14 hb19 LR g0 g1 g2 g3 g4 g5 g6 g7 g8 g9 g10 g11 g12 g13
  obtain ⟨r0, r1, r2, r3, L2⟩ := bats4 hb19 L2 r0 r1 r2 r3
  obtain ⟨s0, s1, s2, s3, L3⟩ := bats4 hb19 L3 s0 s1 s2 s3
  obtain ⟨z0, z1, z2, L4⟩ := bats3 hb19 L4 z0 z1 z2
  have SG20 := hide (below_trans SG18.out hb19)
  clear hb19
  rw [HVE.out]
  obtain ⟨Ab, cb, rfl, hib⟩ := ol_inn hol
  obtain ⟨mb, hmb⟩ : ∃ m, VL.length = m := ⟨_, rfl⟩
  rw [hmb] at hib ⊢
  clear hol hmb
  have HIB := hide hib
  clear hib
  have HCN := hide hC
  obtain ⟨CT, hCT⟩ : ∃ q, cntF VL row = q := ⟨_, rfl⟩
  rw [hCT] at HCN
  have HCT := hide hCT
  clear hC
  go_wp2_with fail
  refine (count_any _ Ab mb cb VL HIB.out Ar nr cr row HROW.out).mono ?_
  rintro e w21 ⟨rfl, hb21⟩
  have HN := hide (HN.out.below hb21)
  have HC := hide (HC.out.below hb21)
  have HR := hide (HR.out.below hb21)
  have HROW := hide (HROW.out.below hb21)
  have RKW4 := hide (RKW4.out.below hb21)
  obtain ⟨g0, g1, g2, g3, g4, g5, g6, g7, g8, g9, g10, g11, g12, g13, LR⟩ := bats14 hb21 LR g0 g1 g2 g3 g4 g5 g6 g7 g8 g9 g10 g11 g12 g13
  obtain ⟨r0, r1, r2, r3, L2⟩ := bats4 hb21 L2 r0 r1 r2 r3
  obtain ⟨s0, s1, s2, s3, L3⟩ := bats4 hb21 L3 s0 s1 s2 s3
  obtain ⟨z0, z1, z2, L4⟩ := bats3 hb21 L4 z0 z1 z2
  have SG22 := hide (below_trans SG20.out hb21)
  clear hb21
  rw [HCT.out]
  clear hCT
  have q1 : (CT == 0) = false := by simpa using HCN.out
  obtain ⟨PV, hPV⟩ : ∃ p, pickN cols x.cols row = p := ⟨_, rfl⟩
  have HPK := hide fun W h1 h2 h3 => picked_any W A1 n1 c1 cols h1 A n c x.cols h2 Ar nr cr row h3 (by omega) hb0
  rw [hPV] at HPK HJ
  clear hPV
  have Rg0 := hide g0
  have Rr1 := hide r1
  have RLR := hide LR
  have RL2 := hide L2
  have HX0 := hide (show ¬ w.heap.size = w21.heap.size from by have := LR; (try simp at this); omega)
  have HX1 := hide (show ¬ w.heap.size + 1 = w21.heap.size from by have := L2; (try simp at this); omega)
  obtain ⟨WA, rfl⟩ : ∃ W, W = w21 := ⟨_, rfl⟩
  have HWA := hide SG22.out
  go_upto_region 9 with (fail)
  go_cut [15] (fun p wx => ∃ (gR : Nat) (A7 : Option Addr) (m7 c7 : Nat), p = .pointer (some ⟨gR, 0, none⟩) ∧ WA.heap.size ≤ gR ∧ RsnAt wx gR x.name A7 m7 c7 (.slice none 0 0) ∧ OL 74 WA.heap.size (fun _ => False) [] wx (.slice A7 m7 c7) PV ∧ PV.length = m7 ∧ Below WA.heap.size WA wx)
  case first =>
    go_region_held3 (fun V => V.cell? ⟨w.heap.size, 0, none⟩ = some (.string x.name) ∧ V.cell? ⟨w.heap.size + 1, 1, none⟩ = some (.slice A1 n1 c1)) (first | exact ⟨bat HB7.out RLR.out Rg0.out, bat HB7.out RL2.out Rr1.out⟩ | exact ⟨bat (below_alloc (w := w7)) (lt_of_cell (bat HB7.out RLR.out Rg0.out)) (bat HB7.out RLR.out Rg0.out), bat (below_alloc (w := w7)) (lt_of_cell (bat HB7.out RL2.out Rr1.out)) (bat HB7.out RL2.out Rr1.out)⟩ | exact ⟨g0, r1⟩ | exact ⟨set_far (set_far (set_far (bat HB8.out RLR.out Rg0.out) (.inl HX0.out)) (.inl HX0.out)) (.inl HX0.out), set_far (set_far (set_far (bat HB8.out RL2.out Rr1.out) (.inl HX1.out)) (.inl HX1.out)) (.inl HX1.out)⟩ | exact ⟨bat HB8.out RLR.out Rg0.out, bat HB8.out RL2.out Rr1.out⟩ | go_keep) (first | (go_at_call 89; refine (HPK.out _ (by exact HC.out.below (Below.refl _ _).drew) (by exact HN.out.below (Below.refl _ _).drew) (by exact HROW.out.below (Below.refl _ _).drew)).mono ?_; rintro e w7 ⟨⟨A7, m7, c7, rfl, ho7, hl7, _⟩, hb7⟩; have HOP := hide ho7; have HLP := hide hl7; have HB7 := hide (below_undrew hb7); clear ho7 hl7 hb7) | (go_at_call 89; refine (HPK.out _ (by exact HC.out.below (below_trans below_alloc (Below.refl _ _).drew)) (by exact HN.out.below (below_trans below_alloc (Below.refl _ _).drew)) (by exact HROW.out.below (below_trans below_alloc (Below.refl _ _).drew))).mono ?_; rintro e w8 ⟨⟨A7, m7, c7, rfl, ho7, hl7, _⟩, hb8⟩; have HOP := hide ho7; have HLP := hide hl7; have HB8 := hide (below_trans below_alloc (below_undrew hb8)); have HBQ := hide (below_undrew hb8); have u0 := bat HBQ.out (b := WA.heap.size) (o := 0) (v := .string ⟨#[]⟩) (by simp) (by simp [go_sem]); have u1 := bat HBQ.out (b := WA.heap.size) (o := 1) (v := .slice none 0 0) (by simp) (by simp [go_sem]); have u2 := bat HBQ.out (b := WA.heap.size) (o := 2) (v := .slice none 0 0) (by simp) (by simp [go_sem]); have HRK8 := hide ((RowBlk.made WA #[.string ⟨#[]⟩, .slice none 0 0, .slice none 0 0] 105 3 rfl).below HBQ.out); have t0 := HRK8.out.frozen 0; have t1 := HRK8.out.frozen 1; have t2 := HRK8.out.frozen 2; clear ho7 hl7 hb8))
    · obtain ⟨W9, hW9⟩ : ∃ W, W = w7.alloc (.cells #[.string x.name, .slice A7 m7 c7, .slice none 0 0] 105) := ⟨_, rfl⟩
      obtain ⟨gR, hgR⟩ : ∃ g, g = w7.heap.size := ⟨_, rfl⟩
      have hop := HOP.out.rebase (B0 := WA.heap.size) (by simp)
      have HG9 : Hid (RsnAt W9 gR x.name A7 m7 c7 (.slice none 0 0)) := hide (by
        rw [hW9, hgR]
        exact ⟨by simp [go_sem], by simp [go_sem], by simp [go_sem], frozen_of_row _ _ 2 _ _ (heap_alloc_new _ _), ⟨_, heap_alloc_new _ _⟩⟩)
      have HP9 : Hid (OL 74 WA.heap.size (fun _ => False) [] W9 (.slice A7 m7 c7) PV) := hide (by rw [hW9]; exact hop.below below_alloc)
      have HB9 : Hid (Below WA.heap.size WA W9) := hide (by rw [hW9]; exact HB7.out.alloc HB7.out.size _)
      have HGB := hide (show WA.heap.size ≤ gR by have := HB7.out.size; omega)
      clear hop HB7 HOP
      rw [← hW9, ← hgR]
      clear hgR hW9
      go_wp2_with fail
      go_meet
      case rel => exact ⟨gR, A7, m7, c7, rfl, HGB.out, HG9.out, HP9.out, HLP.out, HB9.out⟩
    · obtain ⟨W9, hW9⟩ : ∃ W, W = (((w8.setCell ⟨WA.heap.size, 0, none⟩ (.string x.name)).setCell ⟨WA.heap.size, 1, none⟩ (.slice A7 m7 c7)).setCell ⟨WA.heap.size, 2, none⟩ (.slice none 0 0)) := ⟨_, rfl⟩
      obtain ⟨gR, hgR⟩ : ∃ g, g = WA.heap.size := ⟨_, rfl⟩
      have hop := HOP.out.rebase (B0 := WA.heap.size) (by simp)
      have hty := HRK8.out.ty
      have HG9 : Hid (RsnAt W9 gR x.name A7 m7 c7 (.slice none 0 0)) := hide (by
        rw [hW9, hgR]
        have fz := frozen_set (frozen_set (frozen_set HRK8.out.frozen WA.heap.size 0 (.string x.name)) WA.heap.size 1 (.slice A7 m7 c7)) WA.heap.size 2 (.slice none 0 0)
        exact ⟨set_far (set_far (set_same u0) (.inr (by omega))) (.inr (by omega)), set_far (set_same (set_far u1 (.inr (by omega)))) (.inr (by omega)), set_same (set_far (set_far u2 (.inr (by omega))) (.inr (by omega))), fz 2, ((hty.set _ _ _).set _ _ _).set _ _ _⟩)
      have HP9 : Hid (OL 74 WA.heap.size (fun _ => False) [] W9 (.slice A7 m7 c7) PV) := hide (by
        rw [hW9]
        exact ((hop.setBlk hty (.inr fun _ h => h) (by decide) (by simp) _ _).setBlk (hty.set _ _ _) (.inr fun _ h => h) (by decide) (by simp) _ _).setBlk ((hty.set _ _ _).set _ _ _) (.inr fun _ h => h) (by decide) (by simp) _ _)
      have HB9 : Hid (Below WA.heap.size WA W9) := hide (by
        rw [hW9]
        exact ((HB8.out.setCell (Nat.le_refl _) _).setCell (Nat.le_refl _) _).setCell (Nat.le_refl _) _)
      have HGB := hide (show WA.heap.size ≤ gR by omega)
      clear hop hty u0 u1 u2 t0 t1 t2 HRK8 HBQ HB8 HOP
      rw [← hW9, ← hgR]
      clear hgR hW9
      go_wp2_with fail
      go_meet
      case rel => exact ⟨gR, A7, m7, c7, rfl, HGB.out, HG9.out, HP9.out, HLP.out, HB9.out⟩
  case rest =>
    obtain ⟨gR, A7, m7, c7, rfl, hgb, hrs, hpv, hlp, hb⟩ := hcut
    have HGB := hide hgb
    have HG9 := hide hrs
    have HP9 := hide hpv
    have HLP := hide hlp
    have HB9 := hide hb
    clear hgb hrs hpv hlp hb
    have BR := hide HR.out
    have HLEN := hide HR.out.len
    have h63 := HR.out.le
    have hn3 : n3 ≤ 4096 := by rw [← HLEN.out]; exact HRL.out.1
    have HNE := hide (show ¬ w.heap.size + 1 + 1 + 1 = gR from by have h4 : w.heap.size + 1 + 1 + 1 < WA.heap.size := L4; have := HGB.out; omega)
    have q2 := bat HB9.out LR g2
    have q3 := bat HB9.out L2 r3
    have HO9 : Hid (OL (α := List Val) 59 WA.heap.size (fun _ => False) [74] wc (.slice none 0 0) []) := hide (OL.nil HB9.out.size)
    clear HPK
    go_wp2
    go_loopg [58] n3 (fun left i wr => ∃ (k : Nat) (v : Value) (ys : List (List Val)), k + left = n3 ∧ i = .int .i64 k ∧ ys = expRows cols x.cols (rows.take k) row PV ∧ ys.length ≤ k ∧ RsnAt wr gR x.name A7 m7 c7 v ∧ OL 59 WA.heap.size (fun _ => False) [74] wr v ys ∧ OL 74 WA.heap.size (fun _ => False) [] wr (.slice A7 m7 c7) PV ∧ Below WA.heap.size WA wr)
    case atStart => exact ⟨0, _, [], by omega, rfl, by simp [expRows], by simp, HG9.out, HO9.out, HP9.out, HB9.out⟩
    case round =>
      obtain ⟨k, v, ys, hk, rfl, hys, hyl, hrs, hol, hpv, hb⟩ := hrel
      have HYS := hide hys
      have HRS := hide hrs
      have HOL := hide hol
      have HPV := hide hpv
      clear hys hrs hol hpv HG9 HP9 HB9 HO9 q2 q3
      have HN := hide (HN.out.below hb)
      have HC := hide (HC.out.below hb)
      have HROW := hide (HROW.out.below hb)
      have RKW4 := hide (RKW4.out.below hb)
      obtain ⟨g0, g1, g2, g3, g4, g5, g6, g7, g8, g9, g10, g11, g12, g13, LR⟩ := bats14 hb LR g0 g1 g2 g3 g4 g5 g6 g7 g8 g9 g10 g11 g12 g13
      obtain ⟨r0, r1, r2, r3, L2⟩ := bats4 hb L2 r0 r1 r2 r3
      obtain ⟨s0, s1, s2, s3, L3⟩ := bats4 hb L3 s0 s1 s2 s3
      obtain ⟨z0, z1, z2, L4⟩ := bats3 hb L4 z0 z1 z2
      have SG23 := hide hb
      clear hb
      have HLW := hide SG23.out
      have HLR0 := hide HRS.out.lt
      by_cases hlt : k < n3
      · obtain ⟨b, off, y, rfl, hBb0, HX, Ax, An, Ac, f0, f1, e2, e3⟩ := BR.out.ent hlt
        have hBb : b < wr.heap.size := Nat.lt_of_lt_of_le hBb0 HLW.out.size
        have e0 := bat HLW.out hBb0 f0
        have e1 := bat HLW.out hBb0 f1
        have k0 : (0 : Int) ≤ (k : Int) := by omega
        have k1 : (k : Int) < (n3 : Int) := by omega
        have HRW := hide (e2.below HLW.out)
        have HSN := hide (expRows_snoc cols x.cols (rows.take k) y row PV)
        rw [← take_snoc HX.out, ← HYS.out] at HSN
        have hAn : An ≤ 1048576 := by have h1 := rowErr_len (HRZ.out y (mem_of_drop HX.out)); have h2 := e2.len; have h3 := HC.out.len; omega
        clear e2 f0 f1
        go_upto_region 15 with (fail)
        obtain ⟨W10, hW10⟩ : ∃ W, W = wr.alloc (.cells #[.slice Ax An Ac, .int .i64 y.count] 61) := ⟨_, rfl⟩
        obtain ⟨hbW10, SZW10, x0, x1⟩ := boxed2 hW10 rfl
        have RKW10 : Hid (RowBlk W10 (wr.heap.size) 61 2) := hide (by rw [hW10]; exact RowBlk.made _ _ _ _ rfl)
        rw [← hW10]
        clear hW10
        have HN := hide (HN.out.below hbW10)
        have HC := hide (HC.out.below hbW10)
        have HROW := hide (HROW.out.below hbW10)
        obtain ⟨g0, g1, g2, g3, g4, g5, g6, g7, g8, g9, g10, g11, g12, g13, LR⟩ := bats14 hbW10 LR g0 g1 g2 g3 g4 g5 g6 g7 g8 g9 g10 g11 g12 g13
        obtain ⟨r0, r1, r2, r3, L2⟩ := bats4 hbW10 L2 r0 r1 r2 r3
        obtain ⟨s0, s1, s2, s3, L3⟩ := bats4 hbW10 L3 s0 s1 s2 s3
        obtain ⟨z0, z1, z2, L4⟩ := bats3 hbW10 L4 z0 z1 z2
        have LST24 := hide hbW10
        have SG24 := hide (below_trans SG23.out hbW10)
        clear hbW10
        have L10 := lt_of_cell x0
        have HRS1 := hide (HRS.out.below LST24.out)
        have HOL1 := hide (HOL.out.below LST24.out)
        have HPV1 := hide (HPV.out.below LST24.out)
        have HRW1 := hide (HRW.out.below LST24.out)
        have HL1 := hide SG24.out
        have d1 := HRS1.out.c1
        have X0 := hide x0
        have D1 := hide d1
        have DL := hide HRS1.out.lt
        have Qr1 := hide r1
        have QL2 := hide L2
        have QL10 := hide L10
        have QXT := hide RKW10.out.ty
        have HWRS := hide (show wr.heap.size < W10.heap.size from L10)
        have HCM := hide fun W h1 h2 => compareRows_any W Ax Ar An nr Ac cr y.row row h1 h2
        have HPK2 := hide fun W h1 h2 h3 => picked_any W A1 n1 c1 cols h1 A n c x.cols h2 Ax An Ac y.row h3 (by omega) hb0
        obtain ⟨PY, hPY⟩ : ∃ q, pickN cols x.cols y.row = q := ⟨_, rfl⟩
        obtain ⟨Q, hQ⟩ : ∃ q, cmpRows y.row row = q := ⟨_, rfl⟩
        obtain ⟨Q2, hQ2⟩ : ∃ q, cmpRows PY PV = q := ⟨_, rfl⟩
        have HCM2 := hide fun W A5 m5 c5 h1 h2 => compareRows_any W A5 A7 m5 m7 c5 c7 PY PV h1 h2
        have HSN2 : Hid (expRows cols x.cols (rows.take (k + 1)) row PV = ys ++ (if (!(Q == 0) && (Q2 == 0)) = true then [y.row] else [])) := hide (by
          rw [HSN.out, hPY, sameV, sameV, hQ, hQ2])
        rw [hQ] at HCM
        rw [hPY] at HPK2
        rw [hQ2] at HCM2
        clear hPY hQ hQ2 HSN HRS HOL HPV HRW e0 e1
        have hne3 : ¬ gR = wr.heap.size := by have h1 := HLR0.out; omega
        obtain ⟨CB, hCB⟩ : ∃ b, (!(Q == 0) && (Q2 == 0)) = b := ⟨_, rfl⟩
        rw [hCB] at HSN2
        have HCB := hide hCB
        clear hCB
        go_cut [78] (fun t wx => t = .bool CB ∧ Below W10.heap.size W10 wx)
        case first =>
          have mk0 : True := trivial
          by_cases hq : Q = 0
          · subst hq
            obtain rfl : CB = false := by rw [← HCB.out]; rfl
            clear LR g0 g1 g2 g3 g4 g5 g6 g7 g8 g9 g10 g11 g12 g13
            clear L2 r0 r1 r2 r3
            clear L3 s0 s1 s2 s3
            clear L4 z0 z1 z2
            refine wp_region_held_drew (S := fun V => V.cell? ⟨wr.heap.size, 0, none⟩ = some (.slice Ax An Ac)) (by kernel_rfl) (by exact x0) (fun hHeld => ?_)
            refine wpAnyH_take (i := 0) (v := ?_) rfl (by kernel_rfl) (by kernel_rfl) (by kernel_rfl) (fun _ _ _ h => h) (Or.inl ⟨by rfl, ?_⟩) hHeld ?_
            rotate_left
            · intro w hSw
              try dsimp only at hSw
              go_simp
              try with_reducible rfl
            (try simp only [Act.put, List.getElem_toArray, List.getElem_cons_succ, List.getElem_cons_zero, List.setIfInBounds_toArray, List.set_cons_zero, List.set_cons_succ])
            refine wpAnyH_take (i := 1) (v := ?_) rfl (by kernel_rfl) (by kernel_rfl) (by kernel_rfl) (fun _ _ _ h => h) (Or.inl ⟨by rfl, ?_⟩) hHeld ?_
            rotate_left
            · intro w hSw
              try dsimp only at hSw
              go_simp
              try with_reducible rfl
            (try simp only [Act.put, List.getElem_toArray, List.getElem_cons_succ, List.getElem_cons_zero, List.setIfInBounds_toArray, List.set_cons_zero, List.set_cons_succ])
            refine wpAnyH_take (i := 2) (v := ?_) rfl (by kernel_rfl) (by kernel_rfl) (by kernel_rfl) (fun _ _ _ h => h) (Or.inl ⟨by rfl, ?_⟩) hHeld ?_
            rotate_left
            · intro w hSw
              try dsimp only at hSw
              go_simp
              try with_reducible rfl
            (try simp only [Act.put, List.getElem_toArray, List.getElem_cons_succ, List.getElem_cons_zero, List.setIfInBounds_toArray, List.set_cons_zero, List.set_cons_succ])
            refine wpAnyH_ready (rs := [3]) (by kernel_rfl) (by simp) ?_
            refine AllReadyH.cons rfl (fun K hK => ?_) AllReadyH.nil
            go_simp
            go_at_call 84
            refine (HCM.out _ (by exact HRW1.out.below (Below.refl _ _).drew) (by exact HROW.out.below (Below.refl _ _).drew)).mono ?_
            rintro e w11 ⟨rfl, hb11⟩
            have HB11 := hide (below_undrew hb11)
            clear hb11
            go_wp2_with fail
            refine hK.out _ _ ?_ (fun hHeld2 => ?_)
            · exact bat HB11.out QL10.out X0.out
            clear hK K hHeld
            have hHeld := hHeld2
            clear hHeld2
            (try simp only [Act.put, List.getElem_toArray, List.getElem_cons_succ, List.getElem_cons_zero, List.setIfInBounds_toArray, List.set_cons_zero, List.set_cons_succ])
            refine wpAnyH_take (i := 4) (v := ?_) rfl (by kernel_rfl) (by kernel_rfl) (by kernel_rfl) (fun _ _ _ h => h) (Or.inl ⟨by rfl, ?_⟩) hHeld ?_
            rotate_left
            · intro w hSw
              try dsimp only at hSw
              go_simp
              try with_reducible rfl
            (try simp only [Act.put, List.getElem_toArray, List.getElem_cons_succ, List.getElem_cons_zero, List.setIfInBounds_toArray, List.set_cons_zero, List.set_cons_succ])
            refine wpAnyH_take (i := 5) (v := ?_) rfl (by kernel_rfl) (by kernel_rfl) (by kernel_rfl) (fun _ _ _ h => h) (Or.inl ⟨by rfl, ?_⟩) hHeld ?_
            rotate_left
            · intro w hSw
              try dsimp only at hSw
              go_simp
              try with_reducible rfl
            (try simp only [Act.put, List.getElem_toArray, List.getElem_cons_succ, List.getElem_cons_zero, List.setIfInBounds_toArray, List.set_cons_zero, List.set_cons_succ])
            refine wpAnyH_take (i := 6) (v := undef) rfl (by kernel_rfl) (by kernel_rfl) (by kernel_rfl) (fun _ _ _ h => h) (Or.inr ⟨by rfl, rfl⟩) hHeld ?_
            (try simp only [Act.put, List.getElem_toArray, List.getElem_cons_succ, List.getElem_cons_zero, List.setIfInBounds_toArray, List.set_cons_zero, List.set_cons_succ])
            refine wpAnyH_take (i := 7) (v := undef) rfl (by kernel_rfl) (by kernel_rfl) (by kernel_rfl) (fun _ _ _ h => h) (Or.inr ⟨by rfl, rfl⟩) hHeld ?_
            (try simp only [Act.put, List.getElem_toArray, List.getElem_cons_succ, List.getElem_cons_zero, List.setIfInBounds_toArray, List.set_cons_zero, List.set_cons_succ])
            refine wpAnyH_take (i := 8) (v := undef) rfl (by kernel_rfl) (by kernel_rfl) (by kernel_rfl) (fun _ _ _ h => h) (Or.inr ⟨by rfl, rfl⟩) hHeld ?_
            (try simp only [Act.put, List.getElem_toArray, List.getElem_cons_succ, List.getElem_cons_zero, List.setIfInBounds_toArray, List.set_cons_zero, List.set_cons_succ])
            refine wpAnyH_take (i := 9) (v := undef) rfl (by kernel_rfl) (by kernel_rfl) (by kernel_rfl) (fun _ _ _ h => h) (Or.inr ⟨by rfl, rfl⟩) hHeld ?_
            (try simp only [Act.put, List.getElem_toArray, List.getElem_cons_succ, List.getElem_cons_zero, List.setIfInBounds_toArray, List.set_cons_zero, List.set_cons_succ])
            refine wpAnyH_take (i := 10) (v := undef) rfl (by kernel_rfl) (by kernel_rfl) (by kernel_rfl) (fun _ _ _ h => h) (Or.inr ⟨by rfl, rfl⟩) hHeld ?_
            (try simp only [Act.put, List.getElem_toArray, List.getElem_cons_succ, List.getElem_cons_zero, List.setIfInBounds_toArray, List.set_cons_zero, List.set_cons_succ])
            refine wpAnyH_take (i := 11) (v := undef) rfl (by kernel_rfl) (by kernel_rfl) (by kernel_rfl) (fun _ _ _ h => h) (Or.inr ⟨by rfl, rfl⟩) hHeld ?_
            (try simp only [Act.put, List.getElem_toArray, List.getElem_cons_succ, List.getElem_cons_zero, List.setIfInBounds_toArray, List.set_cons_zero, List.set_cons_succ])
            refine wpAnyH_take (i := 12) (v := undef) rfl (by kernel_rfl) (by kernel_rfl) (by kernel_rfl) (fun _ _ _ h => h) (Or.inr ⟨by rfl, rfl⟩) hHeld ?_
            (try simp only [Act.put, List.getElem_toArray, List.getElem_cons_succ, List.getElem_cons_zero, List.setIfInBounds_toArray, List.set_cons_zero, List.set_cons_succ])
            refine wpAnyH_take (i := 13) (v := undef) rfl (by kernel_rfl) (by kernel_rfl) (by kernel_rfl) (fun _ _ _ h => h) (Or.inr ⟨by rfl, rfl⟩) hHeld ?_
            (try simp only [Act.put, List.getElem_toArray, List.getElem_cons_succ, List.getElem_cons_zero, List.setIfInBounds_toArray, List.set_cons_zero, List.set_cons_succ])
            refine wpAnyH_take (i := 14) (v := undef) rfl (by kernel_rfl) (by kernel_rfl) (by kernel_rfl) (fun _ _ _ h => h) (Or.inr ⟨by rfl, rfl⟩) hHeld ?_
            (try simp only [Act.put, List.getElem_toArray, List.getElem_cons_succ, List.getElem_cons_zero, List.setIfInBounds_toArray, List.set_cons_zero, List.set_cons_succ])
            refine wpAnyH_take (i := 15) (v := undef) rfl (by kernel_rfl) (by kernel_rfl) (by kernel_rfl) (fun _ _ _ h => h) (Or.inr ⟨by rfl, rfl⟩) hHeld ?_
            (try simp only [Act.put, List.getElem_toArray, List.getElem_cons_succ, List.getElem_cons_zero, List.setIfInBounds_toArray, List.set_cons_zero, List.set_cons_succ])
            refine wpAnyH_take (i := 16) (v := ?_) rfl (by kernel_rfl) (by kernel_rfl) (by kernel_rfl) (fun _ _ _ h => h) (Or.inl ⟨by rfl, ?_⟩) hHeld ?_
            rotate_left
            · intro w hSw
              try dsimp only at hSw
              go_simp
              try with_reducible rfl
            (try simp only [Act.put, List.getElem_toArray, List.getElem_cons_succ, List.getElem_cons_zero, List.setIfInBounds_toArray, List.set_cons_zero, List.set_cons_succ])
            refine wpAnyH_done (by kernel_rfl) ?_ _
            all_goals
              go_wp2_with fail
              go_meet
              case rel => exact ⟨rfl, HB11.out⟩
          · have q0 : (Q != 0) = true := by simpa using hq
            have HCB2 : Hid (CB = (Q2 == 0)) := hide (by rw [← HCB.out]; simp [hq])
            go_region_held3 (fun V => V.cell? ⟨wr.heap.size, 0, none⟩ = some (.slice Ax An Ac) ∧ V.cell? ⟨w.heap.size + 1, 1, none⟩ = some (.slice A1 n1 c1) ∧ V.cell? ⟨gR, 1, none⟩ = some (.slice A7 m7 c7))
              (first | exact ⟨bat HB13.out QL10.out X0.out, bat HB13.out QL2.out Qr1.out, bat HB13.out DL.out D1.out⟩ | exact ⟨bat HB12.out QL10.out X0.out, bat HB12.out QL2.out Qr1.out, bat HB12.out DL.out D1.out⟩ | exact ⟨bat HB11.out QL10.out X0.out, bat HB11.out QL2.out Qr1.out, bat HB11.out DL.out D1.out⟩ | exact ⟨x0, r1, d1⟩ | go_keep)
              (first
                | (clear mk0; go_at_call 84; refine (HCM.out _ (by exact HRW1.out.below (Below.refl _ _).drew) (by exact HROW.out.below (Below.refl _ _).drew)).mono ?_; rintro e w11 ⟨rfl, hb11⟩; have HB11 := hide (below_undrew hb11); clear hb11; have mk1 : True := trivial)
                | (clear mk1; go_at_call 89; refine (HPK2.out _ (by exact HC.out.below HB11.out) (by exact HN.out.below HB11.out) (by exact HRW1.out.below HB11.out)).mono ?_; rintro e w12 ⟨⟨A5, m5, c5, rfl, ho5, hl5, _⟩, hb12⟩; have HI5 := hide (ol_in ho5 hl5); have HB12 := hide (below_trans HB11.out hb12); clear ho5 hl5 hb12; have mk2 : True := trivial)
                | (clear mk2; go_at_call 84; refine (HCM2.out _ A5 m5 c5 (by exact HI5.out) (by exact ol_in (HPV1.out.below HB12.out) HLP.out)).mono ?_; rintro e w13 ⟨rfl, hb13⟩; have HB13 := hide (below_trans HB12.out hb13); clear hb13; have mk3 : True := trivial))
            obtain rfl := HCB2.out
            go_wp2_with fail
            go_meet
            case rel => exact ⟨rfl, HB13.out⟩
        case rest =>
          obtain ⟨rfl, hb15⟩ := hcut
          have HB15 := hide hb15
          have HRS2 := hide (HRS1.out.below HB15.out)
          have HOL2 := hide (HOL1.out.below HB15.out)
          have HPV2 := hide (HPV1.out.below HB15.out)
          have HL2 := hide (below_trans HL1.out HB15.out)
          have HRW2 := hide (HRW1.out.below HB15.out)
          clear hb15 HCM HCM2 HPK2 x0 x1 d1
          cases CB
          · have HN1 : Hid (ys = expRows cols x.cols (rows.take (k + 1)) row PV) := hide (by rw [HSN2.out]; simp)
            go_wp2
            go_roundg (gk - 1)
            case measure => omega
            case rel => exact ⟨k + 1, v, ys, by omega, by go_num, HN1.out, by omega, HRS2.out, HOL2.out, HPV2.out, HL2.out⟩
          · have HN1 : Hid (ys ++ [y.row] = expRows cols x.cols (rows.take (k + 1)) row PV) := hide (by rw [HSN2.out]; simp)
            have HWS := hide (show WA.heap.size ≤ wc.heap.size from HL2.out.size)
            have QX0 := hide (bat HB15.out QL10.out X0.out)
            have QX0L := hide (lt_of_cell QX0.out)
            have QXT6 : Hid (TyAt wc 61 wr.heap.size) := hide (QXT.out.below HB15.out)
            have hk63 : ys.length + 1 ≤ maxLen := by simp only [maxLen]; omega
            have hk64 : (ys.length + 1) * 24 ≤ 140737488355328 := by omega
            have c2 := HRS2.out.c2
            have hlr := HRS2.out.lt
            have hne4 : ¬ wr.heap.size = gR := fun e => hne3 e.symm
            go_upto_region 16 with (fail)
            refine wp_region_held_drew (S := fun V => V.cell? ⟨wr.heap.size, 0, none⟩ = some (.slice Ax An Ac)) (by kernel_rfl) (by exact QX0.out) (fun hHeld => ?_)
            refine wpAnyH_take (i := 0) (v := ?_) rfl (by kernel_rfl) (by kernel_rfl) (by kernel_rfl) (fun _ _ _ h => h) (Or.inl ⟨by rfl, ?_⟩) hHeld ?_
            rotate_left
            · intro w hSw
              try dsimp only at hSw
              go_simp
              try with_reducible rfl
            (try simp only [Act.put, List.getElem_toArray, List.getElem_cons_succ, List.getElem_cons_zero, List.setIfInBounds_toArray, List.set_cons_zero, List.set_cons_succ])
            refine wpAnyH_take (i := 2) (v := ?_) rfl (by kernel_rfl) (by kernel_rfl) (by kernel_rfl) (fun _ _ _ h => h) (Or.inl ⟨by rfl, ?_⟩) hHeld ?_
            rotate_left
            · intro w hSw
              try dsimp only at hSw
              go_simp
              try with_reducible rfl
            (try simp only [Act.put, List.getElem_toArray, List.getElem_cons_succ, List.getElem_cons_zero, List.setIfInBounds_toArray, List.set_cons_zero, List.set_cons_succ])
            refine wpAnyH_take (i := 3) (v := ?_) rfl (by kernel_rfl) (by kernel_rfl) (by kernel_rfl) (fun _ _ _ h => h) (Or.inl ⟨by rfl, ?_⟩) hHeld ?_
            rotate_left
            · intro w hSw
              try dsimp only at hSw
              go_simp
              try with_reducible rfl
            (try simp only [Act.put, List.getElem_toArray, List.getElem_cons_succ, List.getElem_cons_zero, List.setIfInBounds_toArray, List.set_cons_zero, List.set_cons_succ])
            refine wpAnyH_ready (rs := [1, 4]) (by kernel_rfl) (by simp) ?_
            refine AllReadyH.cons rfl (fun K hK => ?_) (AllReadyH.cons rfl (fun K hK => ?_) AllReadyH.nil)
            · go_simp
              refine hK.out _ _ ?_ (fun hHeld2 => ?_)
              · exact QX0.out
              clear hK K hHeld
              have hHeld := hHeld2
              clear hHeld2
              (try simp only [Act.put, List.getElem_toArray, List.getElem_cons_succ, List.getElem_cons_zero, List.setIfInBounds_toArray, List.set_cons_zero, List.set_cons_succ])
              refine wpAnyH_ready (rs := [4]) (by kernel_rfl) (by simp) ?_
              refine AllReadyH.cons rfl (fun K hK => ?_) AllReadyH.nil
              go_simp
              go_at_call 63
              refine (clone_any _ Ax An Ac y.row (by exact HRW2.out.below (Below.refl _ _).drew) hAn).mono ?_
              rintro e w6 ⟨⟨A6, c6, rfl, hs6⟩, hb6⟩
              have HB6 := hide (below_undrew hb6)
              have HS6 := hide (hs6.mono fun k hk => show BS WA.heap.size (fun _ => False) [74] w6 k from .inr ⟨Nat.le_trans HWS.out hk.1, _, by simp, hk.2⟩)
              have HO6 := hide (HOL2.out.below HB6.out)
              have HR6 := hide (HRS2.out.below HB6.out)
              have HP6 := hide (HPV2.out.below HB6.out)
              clear hs6 hb6
              go_wp2_with fail
              refine hK.out _ _ ?_ (fun hHeld2 => ?_)
              · exact bat HB6.out QX0L.out QX0.out
              clear hK K hHeld
              have hHeld := hHeld2
              clear hHeld2
              (try simp only [Act.put, List.getElem_toArray, List.getElem_cons_succ, List.getElem_cons_zero, List.setIfInBounds_toArray, List.set_cons_zero, List.set_cons_succ])
              refine wpAnyH_ready (rs := [5]) (by kernel_rfl) (by simp) ?_
              refine AllReadyH.cons rfl (fun K hK => ?_) AllReadyH.nil
              go_simp
              refine hK.out _ _ ?_ (fun hHeld2 => ?_)
              · exact bat (below_trans HB6.out below_alloc) QX0L.out QX0.out
              clear hK K hHeld
              have hHeld := hHeld2
              clear hHeld2
              (try simp only [Act.put, List.getElem_toArray, List.getElem_cons_succ, List.getElem_cons_zero, List.setIfInBounds_toArray, List.set_cons_zero, List.set_cons_succ])
              refine wpAnyH_ready (rs := [6]) (by kernel_rfl) (by simp) ?_
              refine AllReadyH.cons rfl (fun K hK => ?_) AllReadyH.nil
              refine step_push_OL _ rfl _ _ _ rfl elem_rows (by decide) w6 _ rfl HO6.out (by simp [Act.eval, Act.put]) (by simp [Act.eval, Act.put]) y.row ⟨_, _, _, rfl, HS6.out⟩ hk63 hk64 ?_
              intro v9 w9 ho9 hb9 hg9 hat9
              obtain ⟨A9, c9, hv9⟩ := ho9.form
              obtain ⟨m9, hm9⟩ : ∃ m, (ys ++ [y.row]).length = m := ⟨_, rfl⟩
              rw [hm9] at hv9
              subst hv9
              clear hm9
              have HO9 := hide ho9
              have HNG : Hid (some gR ≠ v.ownBlock) := hide (fun e => TyAt.ne HR6.out.ty (HO6.out.ty e.symm).2 (by decide) rfl)
              have HR9 := hide (HR6.out.grown hg9 HNG.out)
              have HP9 := hide (HP6.out.grown hg9 fun k e => ⟨fun e2 => TyAt.ne (HO6.out.ty e).2 (HP6.out.ty e2).2 (by decide) rfl, fun hb => by
                rcases hb with ⟨h, _⟩ | ⟨_, t, ht, _⟩
                · exact h
                · cases ht⟩)
              have QX9 := hide ((World.cell?_of_block (a := ⟨wr.heap.size, 0, none⟩) (hg9.block wr.heap.size (lt_of_cell (bat HB6.out QX0L.out QX0.out)) (fun e => TyAt.ne (QXT6.out.below HB6.out) (HO6.out.ty e.symm).2 (by decide) rfl))).trans (bat HB6.out QX0L.out QX0.out))
              have HB9 := hide (HL2.out.trans ((HB6.out.mono HL2.out.size).trans hb9))
              have j2 := HR9.out.c2
              have jf := HR9.out.fz
              clear ho9 hb9 hg9 hat9
              refine hK.out _ _ ?_ (fun hHeld2 => ?_)
              · exact QX9.out
              clear hK K hHeld
              have hHeld := hHeld2
              clear hHeld2
              (try simp only [Act.put, List.getElem_toArray, List.getElem_cons_succ, List.getElem_cons_zero, List.setIfInBounds_toArray, List.set_cons_zero, List.set_cons_succ])
              refine wpAnyH_take (i := 7) (v := ?_) rfl (by kernel_rfl) (by kernel_rfl) (by kernel_rfl) (fun _ _ _ h => h) (Or.inl ⟨by rfl, ?_⟩) hHeld ?_
              rotate_left
              · intro w hSw
                try dsimp only at hSw
                go_simp
                try with_reducible rfl
              (try simp only [Act.put, List.getElem_toArray, List.getElem_cons_succ, List.getElem_cons_zero, List.setIfInBounds_toArray, List.set_cons_zero, List.set_cons_succ])
              refine wpAnyH_ready (rs := [8]) (by kernel_rfl) (by simp) ?_
              refine AllReadyH.cons rfl (fun K hK => ?_) AllReadyH.nil
              go_simp
              refine hK.out _ _ ?_ (fun hHeld2 => ?_)
              · exact set_far QX9.out (.inl hne4)
              clear hK K hHeld
              have hHeld := hHeld2
              clear hHeld2
              (try simp only [Act.put, List.getElem_toArray, List.getElem_cons_succ, List.getElem_cons_zero, List.setIfInBounds_toArray, List.set_cons_zero, List.set_cons_succ])
              refine wpAnyH_done (by kernel_rfl) ?_ _
              have HO10 := hide (HO9.out.setBlk HR9.out.ty (.inr fun _ h => h) (by decide) (by decide) 2 (.slice A9 m9 c9))
              have HP10 := hide (HP9.out.setBlk HR9.out.ty (.inr fun _ h => h) (by decide) (by decide) 2 (.slice A9 m9 c9))
              have HR10 := hide (HR9.out.set2 (.slice A9 m9 c9))
              have HB10 := hide (HB9.out.setCell (p := ⟨gR, 2, none⟩) HGB.out (.slice A9 m9 c9))
              go_wp2
              go_roundg (gk - 1)
              case measure => omega
              case rel => exact ⟨k + 1, _, ys ++ [y.row], by omega, by go_num, HN1.out, by simp; omega, HR10.out, HO10.out, HP10.out, HB10.out⟩
            · go_simp
              go_at_call 63
              refine (clone_any _ Ax An Ac y.row (by exact HRW2.out.below (Below.refl _ _).drew) hAn).mono ?_
              rintro e w6 ⟨⟨A6, c6, rfl, hs6⟩, hb6⟩
              have HB6 := hide (below_undrew hb6)
              have HS6 := hide (hs6.mono fun k hk => show BS WA.heap.size (fun _ => False) [74] w6 k from .inr ⟨Nat.le_trans HWS.out hk.1, _, by simp, hk.2⟩)
              have HO6 := hide (HOL2.out.below HB6.out)
              have HR6 := hide (HRS2.out.below HB6.out)
              have HP6 := hide (HPV2.out.below HB6.out)
              have j2 := HR6.out.c2
              clear hs6 hb6
              go_wp2_with fail
              refine hK.out _ _ ?_ (fun hHeld2 => ?_)
              · exact bat HB6.out QX0L.out QX0.out
              clear hK K hHeld
              have hHeld := hHeld2
              clear hHeld2
              (try simp only [Act.put, List.getElem_toArray, List.getElem_cons_succ, List.getElem_cons_zero, List.setIfInBounds_toArray, List.set_cons_zero, List.set_cons_succ])
              refine wpAnyH_ready (rs := [1, 5]) (by kernel_rfl) (by simp) ?_
              refine AllReadyH.cons rfl (fun K hK => ?_) (AllReadyH.cons rfl (fun K hK => ?_) AllReadyH.nil)
              · go_simp
                refine hK.out _ _ ?_ (fun hHeld2 => ?_)
                · exact bat HB6.out QX0L.out QX0.out
                clear hK K hHeld
                have hHeld := hHeld2
                clear hHeld2
                (try simp only [Act.put, List.getElem_toArray, List.getElem_cons_succ, List.getElem_cons_zero, List.setIfInBounds_toArray, List.set_cons_zero, List.set_cons_succ])
                refine wpAnyH_ready (rs := [5]) (by kernel_rfl) (by simp) ?_
                refine AllReadyH.cons rfl (fun K hK => ?_) AllReadyH.nil
                go_simp
                refine hK.out _ _ ?_ (fun hHeld2 => ?_)
                · exact bat (below_trans HB6.out below_alloc) QX0L.out QX0.out
                clear hK K hHeld
                have hHeld := hHeld2
                clear hHeld2
                (try simp only [Act.put, List.getElem_toArray, List.getElem_cons_succ, List.getElem_cons_zero, List.setIfInBounds_toArray, List.set_cons_zero, List.set_cons_succ])
                refine wpAnyH_ready (rs := [6]) (by kernel_rfl) (by simp) ?_
                refine AllReadyH.cons rfl (fun K hK => ?_) AllReadyH.nil
                refine step_push_OL _ rfl _ _ _ rfl elem_rows (by decide) w6 _ rfl HO6.out (by simp [Act.eval, Act.put]) (by simp [Act.eval, Act.put]) y.row ⟨_, _, _, rfl, HS6.out⟩ hk63 hk64 ?_
                intro v9 w9 ho9 hb9 hg9 hat9
                obtain ⟨A9, c9, hv9⟩ := ho9.form
                obtain ⟨m9, hm9⟩ : ∃ m, (ys ++ [y.row]).length = m := ⟨_, rfl⟩
                rw [hm9] at hv9
                subst hv9
                clear hm9
                have HO9 := hide ho9
                have HNG : Hid (some gR ≠ v.ownBlock) := hide (fun e => TyAt.ne HR6.out.ty (HO6.out.ty e.symm).2 (by decide) rfl)
                have HR9 := hide (HR6.out.grown hg9 HNG.out)
                have HP9 := hide (HP6.out.grown hg9 fun k e => ⟨fun e2 => TyAt.ne (HO6.out.ty e).2 (HP6.out.ty e2).2 (by decide) rfl, fun hb => by
                  rcases hb with ⟨h, _⟩ | ⟨_, t, ht, _⟩
                  · exact h
                  · cases ht⟩)
                have QX9 := hide ((World.cell?_of_block (a := ⟨wr.heap.size, 0, none⟩) (hg9.block wr.heap.size (lt_of_cell (bat HB6.out QX0L.out QX0.out)) (fun e => TyAt.ne (QXT6.out.below HB6.out) (HO6.out.ty e.symm).2 (by decide) rfl))).trans (bat HB6.out QX0L.out QX0.out))
                have HB9 := hide (HL2.out.trans ((HB6.out.mono HL2.out.size).trans hb9))
                have j2 := HR9.out.c2
                have jf := HR9.out.fz
                clear ho9 hb9 hg9 hat9
                refine hK.out _ _ ?_ (fun hHeld2 => ?_)
                · exact QX9.out
                clear hK K hHeld
                have hHeld := hHeld2
                clear hHeld2
                (try simp only [Act.put, List.getElem_toArray, List.getElem_cons_succ, List.getElem_cons_zero, List.setIfInBounds_toArray, List.set_cons_zero, List.set_cons_succ])
                refine wpAnyH_take (i := 7) (v := ?_) rfl (by kernel_rfl) (by kernel_rfl) (by kernel_rfl) (fun _ _ _ h => h) (Or.inl ⟨by rfl, ?_⟩) hHeld ?_
                rotate_left
                · intro w hSw
                  try dsimp only at hSw
                  go_simp
                  try with_reducible rfl
                (try simp only [Act.put, List.getElem_toArray, List.getElem_cons_succ, List.getElem_cons_zero, List.setIfInBounds_toArray, List.set_cons_zero, List.set_cons_succ])
                refine wpAnyH_ready (rs := [8]) (by kernel_rfl) (by simp) ?_
                refine AllReadyH.cons rfl (fun K hK => ?_) AllReadyH.nil
                go_simp
                refine hK.out _ _ ?_ (fun hHeld2 => ?_)
                · exact set_far QX9.out (.inl hne4)
                clear hK K hHeld
                have hHeld := hHeld2
                clear hHeld2
                (try simp only [Act.put, List.getElem_toArray, List.getElem_cons_succ, List.getElem_cons_zero, List.setIfInBounds_toArray, List.set_cons_zero, List.set_cons_succ])
                refine wpAnyH_done (by kernel_rfl) ?_ _
                have HO10 := hide (HO9.out.setBlk HR9.out.ty (.inr fun _ h => h) (by decide) (by decide) 2 (.slice A9 m9 c9))
                have HP10 := hide (HP9.out.setBlk HR9.out.ty (.inr fun _ h => h) (by decide) (by decide) 2 (.slice A9 m9 c9))
                have HR10 := hide (HR9.out.set2 (.slice A9 m9 c9))
                have HB10 := hide (HB9.out.setCell (p := ⟨gR, 2, none⟩) HGB.out (.slice A9 m9 c9))
                go_wp2
                go_roundg (gk - 1)
                case measure => omega
                case rel => exact ⟨k + 1, _, ys ++ [y.row], by omega, by go_num, HN1.out, by simp; omega, HR10.out, HO10.out, HP10.out, HB10.out⟩
              · go_simp
                refine hK.out _ _ ?_ (fun hHeld2 => ?_)
                · exact bat (below_trans HB6.out below_alloc) QX0L.out QX0.out
                clear hK K hHeld
                have hHeld := hHeld2
                clear hHeld2
                (try simp only [Act.put, List.getElem_toArray, List.getElem_cons_succ, List.getElem_cons_zero, List.setIfInBounds_toArray, List.set_cons_zero, List.set_cons_succ])
                have j2 : ∀ o, (w6.alloc o).cell? ⟨gR, 2, none⟩ = some v := fun o => bat below_alloc HR6.out.lt HR6.out.c2
                refine wpAnyH_ready (rs := [1]) (by kernel_rfl) (by simp) ?_
                refine AllReadyH.cons rfl (fun K hK => ?_) AllReadyH.nil
                go_simp
                refine hK.out _ _ ?_ (fun hHeld2 => ?_)
                · exact bat (below_trans HB6.out below_alloc) QX0L.out QX0.out
                clear hK K hHeld
                have hHeld := hHeld2
                clear hHeld2
                (try simp only [Act.put, List.getElem_toArray, List.getElem_cons_succ, List.getElem_cons_zero, List.setIfInBounds_toArray, List.set_cons_zero, List.set_cons_succ])
                refine wpAnyH_ready (rs := [6]) (by kernel_rfl) (by simp) ?_
                refine AllReadyH.cons rfl (fun K hK => ?_) AllReadyH.nil
                refine step_push_OL _ rfl _ _ _ rfl elem_rows (by decide) w6 _ rfl HO6.out (by simp [Act.eval, Act.put]) (by simp [Act.eval, Act.put]) y.row ⟨_, _, _, rfl, HS6.out⟩ hk63 hk64 ?_
                intro v9 w9 ho9 hb9 hg9 hat9
                obtain ⟨A9, c9, hv9⟩ := ho9.form
                obtain ⟨m9, hm9⟩ : ∃ m, (ys ++ [y.row]).length = m := ⟨_, rfl⟩
                rw [hm9] at hv9
                subst hv9
                clear hm9
                have HO9 := hide ho9
                have HNG : Hid (some gR ≠ v.ownBlock) := hide (fun e => TyAt.ne HR6.out.ty (HO6.out.ty e.symm).2 (by decide) rfl)
                have HR9 := hide (HR6.out.grown hg9 HNG.out)
                have HP9 := hide (HP6.out.grown hg9 fun k e => ⟨fun e2 => TyAt.ne (HO6.out.ty e).2 (HP6.out.ty e2).2 (by decide) rfl, fun hb => by
                  rcases hb with ⟨h, _⟩ | ⟨_, t, ht, _⟩
                  · exact h
                  · cases ht⟩)
                have QX9 := hide ((World.cell?_of_block (a := ⟨wr.heap.size, 0, none⟩) (hg9.block wr.heap.size (lt_of_cell (bat HB6.out QX0L.out QX0.out)) (fun e => TyAt.ne (QXT6.out.below HB6.out) (HO6.out.ty e.symm).2 (by decide) rfl))).trans (bat HB6.out QX0L.out QX0.out))
                have HB9 := hide (HL2.out.trans ((HB6.out.mono HL2.out.size).trans hb9))
                have j2 := HR9.out.c2
                have jf := HR9.out.fz
                clear ho9 hb9 hg9 hat9
                refine hK.out _ _ ?_ (fun hHeld2 => ?_)
                · exact QX9.out
                clear hK K hHeld
                have hHeld := hHeld2
                clear hHeld2
                (try simp only [Act.put, List.getElem_toArray, List.getElem_cons_succ, List.getElem_cons_zero, List.setIfInBounds_toArray, List.set_cons_zero, List.set_cons_succ])
                refine wpAnyH_take (i := 7) (v := ?_) rfl (by kernel_rfl) (by kernel_rfl) (by kernel_rfl) (fun _ _ _ h => h) (Or.inl ⟨by rfl, ?_⟩) hHeld ?_
                rotate_left
                · intro w hSw
                  try dsimp only at hSw
                  go_simp
                  try with_reducible rfl
                (try simp only [Act.put, List.getElem_toArray, List.getElem_cons_succ, List.getElem_cons_zero, List.setIfInBounds_toArray, List.set_cons_zero, List.set_cons_succ])
                refine wpAnyH_ready (rs := [8]) (by kernel_rfl) (by simp) ?_
                refine AllReadyH.cons rfl (fun K hK => ?_) AllReadyH.nil
                go_simp
                refine hK.out _ _ ?_ (fun hHeld2 => ?_)
                · exact set_far QX9.out (.inl hne4)
                clear hK K hHeld
                have hHeld := hHeld2
                clear hHeld2
                (try simp only [Act.put, List.getElem_toArray, List.getElem_cons_succ, List.getElem_cons_zero, List.setIfInBounds_toArray, List.set_cons_zero, List.set_cons_succ])
                refine wpAnyH_done (by kernel_rfl) ?_ _
                have HO10 := hide (HO9.out.setBlk HR9.out.ty (.inr fun _ h => h) (by decide) (by decide) 2 (.slice A9 m9 c9))
                have HP10 := hide (HP9.out.setBlk HR9.out.ty (.inr fun _ h => h) (by decide) (by decide) 2 (.slice A9 m9 c9))
                have HR10 := hide (HR9.out.set2 (.slice A9 m9 c9))
                have HB10 := hide (HB9.out.setCell (p := ⟨gR, 2, none⟩) HGB.out (.slice A9 m9 c9))
                go_wp2
                go_roundg (gk - 1)
                case measure => omega
                case rel => exact ⟨k + 1, _, ys ++ [y.row], by omega, by go_num, HN1.out, by simp; omega, HR10.out, HO10.out, HP10.out, HB10.out⟩
      · have HT : Hid (rows.take k = rows) := hide (List.take_of_length_le (by rw [HLEN.out]; omega))
        have HYF : Hid (ys = expRows cols x.cols rows row PV) := hide (by rw [HYS.out, HT.out])
        obtain ⟨A8, c8, hv8⟩ := HOL.out.form
        obtain ⟨m8, hm8⟩ : ∃ m, ys.length = m := ⟨_, rfl⟩
        rw [hm8] at hv8
        subst hv8
        have HM8 := hide hm8
        clear hm8
        have y0 := RKW4.out.frozen 0
        have y1 := RKW4.out.frozen 1
        have y2 := RKW4.out.frozen 2
        have HNEo := HNE.out
        have c0 := HRS.out.c0
        have c1' := HRS.out.c1
        have c2' := HRS.out.c2
        have HBW := hide (below_trans SG22.out SG23.out)
        go_wp2
        obtain rfl := HJ.out
        refine bodyPost_ret (v := .tuple #[.agg #[.string x.name, .slice A7 m7 c7, .slice A8 m8 c8], .int .i64 0]) (results_cells2 (cs := [.string x.name, .slice A7 m7 c7, .slice A8 m8 c8]) rfl _ _ _ _ _ rfl rfl (set_three z0 z1 z2) Tryz.underlying105 rfl (by kernel_rfl)) rfl ⟨⟨_, _, rfl, ((((HPV.out.setBlk RKW4.out.ty (.inr fun _ h => h) (by decide) (by decide) _ _).setBlk (RKW4.out.ty.set _ _ _) (.inr fun _ h => h) (by decide) (by decide) _ _).setBlk ((RKW4.out.ty.set _ _ _).set _ _ _) (.inr fun _ h => h) (by decide) (by decide) _ _)).rebase HWA.out.size, by rw [← HYF.out]; exact ((((HOL.out.setBlk RKW4.out.ty (.inr fun _ h => h) (by decide) (by decide) _ _).setBlk (RKW4.out.ty.set _ _ _) (.inr fun _ h => h) (by decide) (by decide) _ _).setBlk ((RKW4.out.ty.set _ _ _).set _ _ _) (.inr fun _ h => h) (by decide) (by decide) _ _)).rebase HWA.out.size⟩, (((HBW.out.setCell (by simp; omega) _).setCell (by simp; omega) _).setCell (by simp; omega) _)⟩
end Go.Proofs.YtggejcekmehocaaGreatDoor

namespace Go.Proofs.YtggejcekmehocaaGreatDoor
set_option linter.unusedSimpArgs false
set_option linter.unusedVariables false
def kA : ByteArray := ⟨#[97]⟩
def kB : ByteArray := ⟨#[98]⟩
def kNo : ByteArray := ⟨#[]⟩
def iV (n : Int) : Val := ⟨2, n, ⟨#[]⟩⟩
def k28Cols : List Col := [⟨kA, 2, false⟩, ⟨kB, 2, false⟩]
def k28Rows : List Ent := [⟨[iV 1, iV 2], 1⟩, ⟨[iV 1, iV 3], 1⟩, ⟨[iV 2, iV 5], 1⟩]
def k28C : Chk := { name := ⟨#[99]⟩, table := kNo, kind := 0, cols := [kA], other := kNo, ocols := [], low := 0, high := 0, cond := [], ln := 0, ld := 0, mn := 0, md := 0, policy := 1 }
def k28T : Chk := { name := ⟨#[116]⟩, table := kNo, kind := 6, cols := [kA], other := kNo, ocols := [kB], low := 0, high := 0, cond := [], ln := 0, ld := 0, mn := 0, md := 0, policy := 2 }
theorem k28_cols : colsErr k28Cols = 0 := by
  simp [k28Cols, kA, kB, colsErr, firstErr, colErr, isName, nameFrom, nameOk, byteAt, index, indexFrom, ByteArray.toList_eq, ByteArray.size]
theorem k28_a : index k28Cols kA = 0 := by simp [k28Cols, index, indexFrom, kA, ByteArray.toList_eq]
theorem k28_b : index k28Cols kB = 1 := by simp [k28Cols, index, indexFrom, kA, kB, ByteArray.toList_eq]
theorem iV_valid {n : Int} (h0 : 0 ≤ n) (h1 : n ≤ 100) : valid (iV n) = true := by
  have h2 : -1073741824 ≤ n := by omega
  have h3 : n ≤ 1073741824 := by omega
  simp [iV, valid, noStr_mt, h2, h3]
theorem k28_row {a b : Int} (h0 : 0 ≤ a) (h1 : a ≤ 100) (h2 : 0 ≤ b) (h3 : b ≤ 100) : rowErr k28Cols [iV a, iV b] = 0 := by
  have v1 := iV_valid h0 h1
  have v2 := iV_valid h2 h3
  simp [rowErr, k28Cols, firstErr, cellErr, v1, v2]
  simp [iV]
theorem k28_ent {a b : Int} (h0 : 0 ≤ a) (h1 : a ≤ 100) (h2 : 0 ≤ b) (h3 : b ≤ 100) : entErr ⟨[iV a, iV b], 1⟩ = 0 := by
  have v1 := iV_valid h0 h1
  have v2 := iV_valid h2 h3
  simp [entErr, firstErr, v1, v2]
theorem k28_bag : bagErr k28Rows = 0 := by
  have e1 := k28_ent (a := 1) (b := 2) (by omega) (by omega) (by omega) (by omega)
  have e2 := k28_ent (a := 1) (b := 3) (by omega) (by omega) (by omega) (by omega)
  have e3 := k28_ent (a := 2) (b := 5) (by omega) (by omega) (by omega) (by omega)
  have e4 : cmpRows [iV 1, iV 2] [iV 1, iV 3] < 0 := cr_cons.2 (.inr ⟨rfl, by decide⟩)
  have e5 : cmpRows [iV 1, iV 3] [iV 2, iV 5] < 0 := by decide
  have e6 : ¬ 0 ≤ cmpRows [iV 1, iV 2] [iV 1, iV 3] := by omega
  have e7 : ¬ 0 ≤ cmpRows [iV 1, iV 3] [iV 2, iV 5] := by omega
  simp [bagErr, k28Rows, firstErr, bagErr1, e1, e2, e3, e6, e7]
theorem k28_tab : tabErr k28Cols k28Rows = 0 := by
  have e1 := k28_row (a := 1) (b := 2) (by omega) (by omega) (by omega) (by omega)
  have e2 := k28_row (a := 1) (b := 3) (by omega) (by omega) (by omega) (by omega)
  have e3 := k28_row (a := 2) (b := 5) (by omega) (by omega) (by omega) (by omega)
  have e4 : isTable k28Rows = true := by rw [isTable_pos k28_bag]; rfl
  rw [tabErr, if_neg (by rw [k28_bag]; simp), if_neg (by rw [e4]; simp)]
  simp [k28Rows, firstErr, e1, e2, e3]
theorem k28_ia : indsS k28Cols [kA] = (0, [0]) := by
  have h := inds_one (cols := k28Cols) (nm := kA) (by rw [k28_a]; omega)
  exact Prod.ext h (by rw [(inds_fit h).1, List.map_cons, List.map_nil, k28_a])
theorem k28_ib : indsS k28Cols [kB] = (0, [1]) := by
  have h := inds_one (cols := k28Cols) (nm := kB) (by rw [k28_b]; omega)
  exact Prod.ext h (by rw [(inds_fit h).1, List.map_cons, List.map_nil, k28_b])
theorem k28_pick {a b : Int} : pickN k28Cols [kA] [iV a, iV b] = [iV a] := by
  rw [pickN, k28_ia]; rfl
theorem k28_chk : chkErr k28C k28Cols [] [] = 0 := by
  simp [chkErr, k28C, k28_cols, usesC, chkCols, k28_ia, usesO]
theorem k28_chkT : chkErr k28T k28Cols k28Cols [] = 0 := by
  simp [chkErr, k28T, k28_cols, usesC, chkCols, k28_ia, k28_ib, usesO]
  simp [k28Cols]
theorem k28_all : allErr k28C k28Cols [] k28Rows [] [] = 0 := by
  rw [allErr, if_neg (by rw [k28_chk]; simp), if_neg (by rw [k28_tab]; simp)]
  simp [k28C, usesO]
theorem k28_allT : allErr k28T k28Cols k28Cols k28Rows k28Rows [] = 0 := by
  rw [allErr, if_neg (by rw [k28_chkT]; simp), if_neg (by rw [k28_tab]; simp)]
  simp [k28_tab]
theorem sameV_no {a b : List Val} (h : a ≠ b) : sameV a b = false := by
  cases q : sameV a b
  · rfl
  · exact absurd (sameV_iff.1 q) h
theorem k28_same1 : sameV [iV 1] [iV 1] = true := sameV_iff.2 rfl
theorem k28_same2 : sameV [iV 2] [iV 1] = false := sameV_no (by simp [iV])
theorem k28_same3 : sameV [iV 1] [iV 2] = false := sameV_no (by simp [iV])
theorem k28_same4 : sameV [iV 2] [iV 2] = true := sameV_iff.2 rfl
theorem k28_viol : violS k28C k28Cols [] k28Rows [] [] = (0, [⟨[iV 1, iV 2], 1⟩, ⟨[iV 1, iV 3], 1⟩]) := by
  have g1 : totC (grp k28Cols [kA] k28Rows [iV 1]) = 2 := by
    simp [grp, k28Rows, k28_pick, k28_same1, k28_same2, k28_same3, k28_same4, totC]
  have g2 : totC (grp k28Cols [kA] k28Rows [iV 2]) = 1 := by
    simp [grp, k28Rows, k28_pick, k28_same1, k28_same2, k28_same3, k28_same4, totC]
  have v1 : ∀ b, violB k28C k28Cols [] k28Rows [] [] [iV 1, iV b] = true := fun b => by
    rw [violB, if_pos (show k28C.kind = 0 from rfl), show k28C.cols = [kA] from rfl, k28_pick, g1]; rfl
  have v2 : ∀ b, violB k28C k28Cols [] k28Rows [] [] [iV 2, iV b] = false := fun b => by
    rw [violB, if_pos (show k28C.kind = 0 from rfl), show k28C.cols = [kA] from rfl, k28_pick, g2]; rfl
  rw [violS, if_neg (by rw [k28_all]; simp)]
  congr 1
  rw [show k28Rows = [⟨[iV 1, iV 2], 1⟩, ⟨[iV 1, iV 3], 1⟩, ⟨[iV 2, iV 5], 1⟩] from rfl] at *
  simp [v1, v2]
theorem k28_exp : expS k28C k28Cols [] k28Rows [] [] [iV 1, iV 2] = (0, ⟨⟨#[99]⟩, [iV 1], [[iV 1, iV 3]]⟩) := by
  have s1 : sameV [iV 1, iV 2] [iV 1, iV 2] = true := sameV_iff.2 rfl
  have s2 : sameV [iV 1, iV 3] [iV 1, iV 2] = false := sameV_no (by simp [iV])
  have s3 : sameV [iV 2, iV 5] [iV 1, iV 2] = false := sameV_no (by simp [iV])
  have c1 : cmpRows [iV 1, iV 2] [iV 1, iV 2] = 0 := cr_zero.2 rfl
  rw [expS, if_neg (by rw [k28_all]; simp), k28_viol, if_neg (by rw [cntF, if_pos c1]; simp), show k28C.cols = [kA] from rfl, k28_pick]
  simp [expRows, k28Rows, k28_pick, s1, s2, s3, k28_same1, k28_same2, k28C]
theorem k28_judge : judgeS k28T k28Cols k28Cols k28Rows k28Rows [] = (0, ⟨⟨#[116]⟩, true, 0, 4, 10⟩) := by
  have t1 : totAt k28Cols [kA] = 0 := by rw [totAt, show ([kA] : List ByteArray).getD 0 default = kA from rfl, k28_a]; rfl
  have t2 : totAt k28Cols [kB] = 1 := by rw [totAt, show ([kB] : List ByteArray).getD 0 default = kB from rfl, k28_b]; rfl
  have c1 : colSum 0 k28Rows = 4 := by simp [colSum, k28Rows, iV]
  have c2 : colSum 1 k28Rows = 10 := by simp [colSum, k28Rows, iV]
  rw [judgeS, if_neg (by rw [k28_allT]; simp), verS, if_neg (by decide), if_pos (by decide), show k28T.cols = [kA] from rfl, show k28T.ocols = [kB] from rfl, t1, t2, c1, c2]
  rfl
end Go.Proofs.YtggejcekmehocaaGreatDoor
