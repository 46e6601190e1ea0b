/-
  check.Violations. (Printed by gen_vioW.py.) bag.Count: the count of a row.
-/
import Derived.Test.YtggejcekmehocaaGreatDoorViol
import Derived.Test.YtggejcekmehocaaGreatDoorVioP
import Derived.Test.YtggejcekmehocaaGreatDoorGap
import Derived.Test.YtggejcekmehocaaGreatDoorGac
import Derived.Test.YtggejcekmehocaaGreatDoorGaa
namespace Go.Proofs.YtggejcekmehocaaGreatDoor
open Go.RowKit Go.Maps
set_option linter.unusedSimpArgs false
set_option linter.unusedVariables false
set_option maxHeartbeats 4000000 in
set_option maxRecDepth 100000 in
theorem violations_any (w : World) (x : Chk) (A : Option Addr) (n c : Nat) (hn : In w A n c x.cols) (A' : Option Addr) (n' c' : Nat) (hn' : In w A' n' c' x.ocols) (A'' : Option Addr) (n'' c'' : Nat) (hq : In w A'' n'' c'' x.cond) (hw : Words w)
    (rn : ByteArray) (A1 : Option Addr) (n1 c1 : Nat) (cols : List Col) (hc : In w A1 n1 c1 cols) (Ak : Option Addr) (nk ck : Nat) (A3 : Option Addr) (n3 c3 : Nat) (rows : List Ent) (hr : In w A3 n3 c3 rows)
    (on : ByteArray) (A2 : Option Addr) (n2 c2 : Nat) (ocols : List Col) (ho : In w A2 n2 c2 ocols) (Al : Option Addr) (nl cl : Nat) (A4 : Option Addr) (n4 c4 : Nat) (orows : List Ent) (hor : In w A4 n4 c4 orows) (A5 : Option Addr) (n5 c5 : Nat) (zs : List Zone) (hz : In w A5 n5 c5 zs) (hb0 : n ≤ 4096) (hb1 : n' ≤ 4096) (hb2 : n1 ≤ 4096) (hb3 : n2 ≤ 4096) :
    Calls Tryz.prog 29 #[.agg (chkCells x A n c A' n' c' A'' n'' c'').toArray, .agg #[.string rn, .slice A1 n1 c1, .slice Ak nk ck, .slice A3 n3 c3], .agg #[.string on, .slice A2 n2 c2, .slice Al nl cl, .slice A4 n4 c4], .slice A5 n5 c5] w
      fun e w' => (∃ v, e = .returned (.tuple #[v, .int .i64 (violS x cols ocols rows orows zs).1]) ∧ OE w.heap.size w' v (violS x cols ocols rows orows zs).2) ∧ Below w.heap.size w w' := by
  have HA := hide fun W hn hn' hq hw hc hr ho hor hz => checkAll_any W x A n c hn A' n' c' hn' A'' n'' c'' hq hw rn A1 n1 c1 cols hc Ak nk ck A3 n3 c3 rows hr on A2 n2 c2 ocols ho Al nl cl A4 n4 c4 orows hor A5 n5 c5 zs hz hb0 hb1 hb2 hb3
  have HB := hide fun W hn hn' hq hw hc hr ho hor hz hE => violated_any W x A n c hn A' n' c' hn' A'' n'' c'' hq hw rn A1 n1 c1 cols hc Ak nk ck A3 n3 c3 rows hr on A2 n2 c2 ocols ho Al nl cl A4 n4 c4 orows hor A5 n5 c5 zs hz hb0 hb1 hb2 hb3 hE
  have HD := hide (show violS x cols ocols rows orows zs = if allErr x cols ocols rows orows zs ≠ 0 then (allErr x cols ocols rows orows zs, []) else (0, rows.filter fun y => violB x cols ocols rows orows zs y.row) from rfl)
  have HZ0 := hide (fun h => all_zero (c := x) (rc := cols) (oc := ocols) (rr := rows) (orr := orows) (zs := zs) h)
  obtain ⟨R, hR⟩ : ∃ R, violS x cols ocols rows orows zs = R := ⟨_, rfl⟩
  obtain ⟨E, hE⟩ : ∃ E, allErr x cols ocols rows orows zs = E := ⟨_, rfl⟩
  obtain ⟨VB, hVB⟩ : ∃ V, violB x cols ocols rows orows zs = V := ⟨_, rfl⟩
  rw [hR, hE] at HD
  rw [hE] at HA HZ0
  rw [hVB] at HD HB
  simp only [hE] at HB
  rw [hR]
  clear hR hE hVB
  simp only [chkCells] at HA HB ⊢
  go_enter Tryz.func29, Tryz.ntmps29
  have HN := hide hn
  clear hn
  have HN2 := hide hn'
  clear hn'
  have HQ := hide hq
  clear hq
  have HW := hide hw
  clear hw
  have HC := hide hc
  clear hc
  have HO := hide ho
  clear ho
  have HZ := hide hz
  clear hz
  have HR := hide hr
  clear hr
  have HOR := hide hor
  clear hor
  go_wp2_with fail
  obtain ⟨W1, hW1⟩ : ∃ W, W = w.alloc (.cells #[.string x.name, .string x.table, .int .i64 x.kind, .slice A n c, .string x.other, .slice A' n' c', .int .i64 x.low, .int .i64 x.high, .slice A'' n'' c'', .int .i64 x.ln, .int .i64 x.ld, .int .i64 x.mn, .int .i64 x.md, .int .i64 x.policy] 27) := ⟨_, rfl⟩
  obtain ⟨hbW1, SZW1, g0, g1, g2, g3, g4, g5, g6, g7, g8, g9, g10, g11, g12, g13⟩ := boxed14 hW1 rfl
  rw [← hW1]
  clear hW1
  have HN := hide (HN.out.below hbW1)
  have HN2 := hide (HN2.out.below hbW1)
  have HQ := hide (HQ.out.below hbW1)
  have HW := hide (HW.out.below hbW1)
  have HC := hide (HC.out.below hbW1)
  have HO := hide (HO.out.below hbW1)
  have HZ := hide (HZ.out.below hbW1)
  have HR := hide (HR.out.below hbW1)
  have HOR := hide (HOR.out.below hbW1)
  have SG1 := hide hbW1
  clear hbW1
  have LR := lt_of_cell g0
  obtain ⟨W2, hW2⟩ : ∃ W, W = W1.alloc (.cells #[.string rn, .slice A1 n1 c1, .slice Ak nk ck, .slice A3 n3 c3] 32) := ⟨_, rfl⟩
  obtain ⟨hbW2, SZW2, r0, r1, r2, r3⟩ := boxed4 (b := w.heap.size + 1) hW2 (by rw [SZW1.out])
  rw [← hW2]
  clear hW2
  have HN := hide (HN.out.below hbW2)
  have HN2 := hide (HN2.out.below hbW2)
  have HQ := hide (HQ.out.below hbW2)
  have HW := hide (HW.out.below hbW2)
  have HC := hide (HC.out.below hbW2)
  have HO := hide (HO.out.below hbW2)
  have HZ := hide (HZ.out.below hbW2)
  have HR := hide (HR.out.below hbW2)
  have HOR := hide (HOR.out.below hbW2)
  obtain ⟨g0, g1, g2, g3, g4, g5, g6, g7, g8, g9, g10, g11, g12, g13, LR⟩ := bats14 hbW2 LR g0 g1 g2 g3 g4 g5 g6 g7 g8 g9 g10 g11 g12 g13
  have SG2 := hide (below_trans SG1.out hbW2)
  clear hbW2
  have L2 := lt_of_cell r0
  obtain ⟨W3, hW3⟩ : ∃ W, W = W2.alloc (.cells #[.string on, .slice A2 n2 c2, .slice Al nl cl, .slice A4 n4 c4] 32) := ⟨_, rfl⟩
  obtain ⟨hbW3, SZW3, s0, s1, s2, s3⟩ := boxed4 (b := w.heap.size + 1 + 1) hW3 (by rw [SZW2.out, SZW1.out])
  rw [← hW3]
  clear hW3
  have HN := hide (HN.out.below hbW3)
  have HN2 := hide (HN2.out.below hbW3)
  have HQ := hide (HQ.out.below hbW3)
  have HW := hide (HW.out.below hbW3)
  have HC := hide (HC.out.below hbW3)
  have HO := hide (HO.out.below hbW3)
  have HZ := hide (HZ.out.below hbW3)
  have HR := hide (HR.out.below hbW3)
  have HOR := hide (HOR.out.below hbW3)
  obtain ⟨g0, g1, g2, g3, g4, g5, g6, g7, g8, g9, g10, g11, g12, g13, LR⟩ := bats14 hbW3 LR g0 g1 g2 g3 g4 g5 g6 g7 g8 g9 g10 g11 g12 g13
  obtain ⟨r0, r1, r2, r3, L2⟩ := bats4 hbW3 L2 r0 r1 r2 r3
  have SG3 := hide (below_trans SG2.out hbW3)
  clear hbW3
  have L3 := lt_of_cell s0
  go_wp2_with fail
  refine (HA.out _ HN.out HN2.out HQ.out HW.out HC.out HR.out HO.out HOR.out HZ.out).mono ?_
  rintro e w4 ⟨rfl, hb4⟩
  have HN := hide (HN.out.below hb4)
  have HN2 := hide (HN2.out.below hb4)
  have HQ := hide (HQ.out.below hb4)
  have HW := hide (HW.out.below hb4)
  have HC := hide (HC.out.below hb4)
  have HO := hide (HO.out.below hb4)
  have HZ := hide (HZ.out.below hb4)
  have HR := hide (HR.out.below hb4)
  have HOR := hide (HOR.out.below hb4)
  obtain ⟨g0, g1, g2, g3, g4, g5, g6, g7, g8, g9, g10, g11, g12, g13, LR⟩ := bats14 hb4 LR g0 g1 g2 g3 g4 g5 g6 g7 g8 g9 g10 g11 g12 g13
  obtain ⟨r0, r1, r2, r3, L2⟩ := bats4 hb4 L2 r0 r1 r2 r3
  obtain ⟨s0, s1, s2, s3, L3⟩ := bats4 hb4 L3 s0 s1 s2 s3
  have SG5 := hide (below_trans SG3.out hb4)
  clear hb4
  by_cases hE0 : E = 0
  rotate_left
  · have q0 : (E != 0) = true := by simpa using hE0
    have HRE : Hid (R = (E, [])) := hide (by rw [HD.out, if_pos hE0])
    obtain rfl := HRE.out
    go_wp2
    all_goals (try (exfalso; go_light; simp_all; done))
    go_ret2
    exact ⟨⟨_, rfl, OL.nil SG5.out.size⟩, SG5.out⟩
  subst hE0
  go_wp2_with fail
  refine (HB.out _ HN.out HN2.out HQ.out HW.out HC.out HR.out HO.out HOR.out HZ.out (by first | rfl | trivial)).mono ?_
  rintro e w6 ⟨⟨fv, rfl, hbad⟩, hb6⟩
  have HN := hide (HN.out.below hb6)
  have HC := hide (HC.out.below hb6)
  have HR := hide (HR.out.below hb6)
  obtain ⟨g0, g1, g2, g3, g4, g5, g6, g7, g8, g9, g10, g11, g12, g13, LR⟩ := bats14 hb6 LR g0 g1 g2 g3 g4 g5 g6 g7 g8 g9 g10 g11 g12 g13
  obtain ⟨r0, r1, r2, r3, L2⟩ := bats4 hb6 L2 r0 r1 r2 r3
  obtain ⟨s0, s1, s2, s3, L3⟩ := bats4 hb6 L3 s0 s1 s2 s3
  have SG7 := hide (below_trans SG5.out hb6)
  clear hb6
  have HBAD := hide hbad
  have HTZ := hide (tabErr_zero (HZ0.out (by first | rfl | trivial)).2.1)
  have HRL := hide (bag_zero HTZ.out.1 HTZ.out.2.1)
  have hn3 : n3 ≤ 4096 := by have := HRL.out.1; rw [HR.out.len] at this; exact this
  have HLEN := hide HR.out.len
  have h63 := HR.out.le
  clear hbad
  obtain ⟨k9, caps, rfl, hcf, hcall⟩ := HBAD.out
  have HCALL := hide hcall
  clear hcall HBAD
  clear LR g0 g1 g2 g3 g4 g5 g6 g7 g8 g9 g10 g11 g12 g13
  clear L3 s0 s1 s2 s3
  obtain ⟨W5, rfl⟩ : ∃ W, W = w6 := ⟨_, rfl⟩
  have HOS := hide SG7.out.size
  go_wp2
  go_loopw [12, 31] (fun o i wr => ∃ (k : Nat) (ys : List Ent), k ≤ n3 ∧ i = .int .i64 k ∧ ys = (rows.take k).filter (fun y => VB y.row) ∧ ys.length ≤ k ∧ OE W5.heap.size wr o ys ∧ Below W5.heap.size W5 wr) (fun _ i _ => n3 - (RowKit.intOf i).toNat)
  case atStart => exact ⟨0, [], Nat.zero_le _, rfl, by simp, by simp, OL.nil (Nat.le_refl _), Below.refl _ _⟩
  case round =>
    obtain ⟨k, ys, hk, rfl, hys, hyl, hol, hb⟩ := hrel
    have HYS := hide hys
    have HOL := hide hol
    clear hys hol
    have HN := hide (HN.out.below hb)
    have HC := hide (HC.out.below hb)
    have HR := hide (HR.out.below hb)
    obtain ⟨r0, r1, r2, r3, L2⟩ := bats4 hb L2 r0 r1 r2 r3
    have SG8 := hide hb
    clear hb
    by_cases hlt : k < n3
    · obtain ⟨b, off, y, rfl, hBb, HX, Ax, An, Ac, e0, e1, e2, e3⟩ := HR.out.ent hlt
      have k0 : (0 : Int) ≤ (k : Int) := by omega
      have k1 : (k : Int) < (n3 : Int) := by omega
      have HFIT := hide (HTZ.out.2.2 y (mem_of_drop HX.out))
      have HE2 := hide e2
      have HWR := hide SG8.out
      have HWB := hide (below_trans SG7.out SG8.out)
      clear e2
      go_wp2_with fail
      refine (HCALL.out _ (by exact below_trans SG8.out below_alloc) _ _ _ y.row (by exact HE2.out.below below_alloc) HFIT.out).mono ?_
      rintro e w8 ⟨rfl, hb8⟩
      have x0 := bat (b := wr.heap.size) (o := 0) (v := .slice Ax An Ac) hb8 (by simp) (by simp [go_sem])
      have x1 := bat (b := wr.heap.size) (o := 1) (v := .int .i64 y.count) hb8 (by simp) (by simp [go_sem])
      have hb9 := below_trans below_alloc hb8
      clear e0 e1 hb8
      have HN := hide (HN.out.below hb9)
      have HC := hide (HC.out.below hb9)
      obtain ⟨r0, r1, r2, r3, L2⟩ := bats4 hb9 L2 r0 r1 r2 r3
      have LST9 := hide hb9
      have SG9 := hide (below_trans SG8.out hb9)
      clear hb9
      have HNE := hide HOL.out.ne_new
      have HE8 := hide (HE2.out.below LST9.out)
      have HOL8 := hide (HOL.out.below LST9.out)
      have LX := lt_of_cell x0
      have X0 := hide x0
      have X1 := hide x1
      have HBW := hide (below_trans SG7.out SG9.out)
      have HLW := hide SG9.out
      have hyl2 := hyl
      cases hv : VB y.row
      · have HN : Hid (ys = (rows.take (k + 1)).filter (fun y => VB y.row)) := hide (by rw [take_snoc HX.out, List.filter_append, HYS.out, List.filter_cons_of_neg (by simp [hv])]; simp)
        go_wp2
        go_roundw
        case rel => exact ⟨k + 1, ys, by omega, by go_num, HN.out, by omega, HOL8.out, HLW.out⟩
        case measure => simp [RowKit.intOf]; omega
      · have HN : Hid (ys ++ [y] = (rows.take (k + 1)).filter (fun y => VB y.row)) := hide (by rw [take_snoc HX.out, List.filter_append, HYS.out, List.filter_cons_of_pos (by simp [hv])]; simp)
        have hk63 : ys.length + 1 ≤ maxLen := by simp only [maxLen]; omega
        have hk64 : (ys.length + 1) * 32 ≤ 140737488355328 := by omega
        have hrl : An ≤ 1048576 := by have h1 := HC.out.len; rw [← HE2.out.len, rowErr_len HFIT.out]; omega
        go_wp2
        go_region_held3 (fun V => V.cell? ⟨wr.heap.size, 0, none⟩ = some (.slice Ax An Ac) ∧ V.cell? ⟨wr.heap.size, 1, none⟩ = some (.int .i64 y.count))
          (first | exact ⟨y0, y1⟩ | exact ⟨bat HB6.out LX X0.out, bat HB6.out LX X1.out⟩ | exact ⟨x0, x1⟩ | go_keep)
          (first
            | (go_at_call 63; refine (clone_any _ Ax An Ac y.row (by exact HE8.out.below (Below.refl _ _).drew) hrl).mono ?_; rintro e w6 ⟨⟨A6, c6, rfl, hs6⟩, hb6⟩; have HB6 := hide (below_undrew hb6); have HS6 := hide (hs6.mono fun k hk => show BS W5.heap.size (fun _ => False) [74] w6 k from .inr ⟨Nat.le_trans HLW.out.size hk.1, _, by simp, hk.2⟩); have HO6 := hide (HOL8.out.below HB6.out); clear hs6 hb6)
            | (refine step_push_OL _ rfl _ _ _ rfl elem_ents (by decide) w6 _ rfl HO6.out (by simp [Act.eval, Act.put]) (by simp [Act.eval, Act.put]) ⟨y.row, y.count⟩ ⟨_, _, _, rfl, HS6.out, e3⟩ hk63 hk64 ?_; intro v9 w9 ho9 hb9 hg9 hat9; have HO9 := hide ho9; have y0 := (World.cell?_of_block (a := ⟨wr.heap.size, 0, none⟩) (hg9.block wr.heap.size (lt_of_cell (bat HB6.out LX X0.out)) HNE.out)).trans (bat HB6.out LX X0.out); have y1 := (World.cell?_of_block (a := ⟨wr.heap.size, 1, none⟩) (hg9.block wr.heap.size (lt_of_cell (bat HB6.out LX X1.out)) HNE.out)).trans (bat HB6.out LX X1.out); have HB9 := hide (HLW.out.trans ((HB6.out.mono HLW.out.size).trans hb9)); clear ho9 hb9 hg9 hat9))
        go_wp2
        go_roundw
        case rel => exact ⟨k + 1, ys ++ [y], by omega, by go_num, HN.out, by simp; omega, HO9.out, HB9.out⟩
        case measure => simp [RowKit.intOf]; omega
    · have HT : Hid (ys = rows.filter fun y => VB y.row) := hide (by rw [HYS.out, List.take_of_length_le (by rw [HLEN.out]; omega)])
      have HRE : Hid (R = (0, ys)) := hide (by rw [HD.out, HT.out]; simp)
      have HOL8 := hide HOL.out
      have HBW := hide (below_trans SG7.out SG8.out)
      obtain rfl := HRE.out
      go_wp2
      go_ret2
      exact ⟨⟨_, rfl, HOL8.out.rebase HOS.out⟩, HBW.out⟩
end Go.Proofs.YtggejcekmehocaaGreatDoor

namespace Go.Proofs.YtggejcekmehocaaGreatDoor
open Go.RowKit
set_option linter.unusedSimpArgs false
set_option linter.unusedVariables false
set_option maxHeartbeats 2000000 in
set_option maxRecDepth 100000 in
theorem count_any (w : World) (A : Option Addr) (n c : Nat) (bs : List Ent) (hx : In w A n c bs) (A2 : Option Addr) (n2 c2 : Nat) (row : List Val) (hy : In w A2 n2 c2 row) :
    Calls Tryz.prog 54 #[.slice A n c, .slice A2 n2 c2] w fun e w' => e = .returned (.int .i64 (cntF bs row)) ∧ Below w.heap.size w w' := by
  obtain ⟨R, hR⟩ : ∃ R, cntF bs row = R := ⟨_, rfl⟩
  have HR := hide hR
  rw [hR]
  clear hR
  have HL := hide hx.len
  have h63 := hx.le
  go_enter Tryz.func54, Tryz.ntmps54
  have HX := hide hx
  clear hx
  have HY := hide hy
  clear hy
  go_wp2
  go_loopw [9] (fun i wr => ∃ k : Nat, k ≤ n ∧ i = .int .i64 k ∧ R = cntF (bs.drop k) row ∧ Below w.heap.size w wr) (fun i _ => n - (RowKit.intOf i).toNat)
  case atStart => exact ⟨0, Nat.zero_le _, rfl, HR.out.symm, Below.refl _ _⟩
  case round =>
    obtain ⟨k, hk, rfl, heq, hb⟩ := hrel
    have HE := hide heq
    clear heq
    have HX := hide (HX.out.below hb)
    have HY := hide (HY.out.below hb)
    have SG1 := hide hb
    clear hb
    by_cases hlt : k < n
    · obtain ⟨b, off, x, rfl, hBb, HX1, Ax, An, Ac, e0, e1, e2, e3⟩ := HX.out.ent hlt
      have HI := hide e2
      clear e2
      go_wp2_with fail
      obtain ⟨W6, hW6⟩ : ∃ W, W = wr.alloc (.cells #[.slice Ax An Ac, .int .i64 x.count] 61) := ⟨_, rfl⟩
      obtain ⟨hbW6, SZW6, x0, x1⟩ := boxed2 hW6 rfl
      rw [← hW6]
      clear hW6
      have HY := hide (HY.out.below hbW6)
      have LST2 := hide hbW6
      have SG2 := hide (below_trans SG1.out hbW6)
      clear hbW6
      have L6 := lt_of_cell x0
      have HI6 := hide (HI.out.below LST2.out)
      go_wp2_with fail
      refine (compareRows_any _ Ax A2 An n2 Ac c2 x.row row (by exact HI6.out) HY.out).mono ?_
      rintro e w3 ⟨rfl, hb3⟩
      obtain ⟨x0, x1, L6⟩ := bats2 hb3 L6 x0 x1
      have SG4 := hide (below_trans SG2.out hb3)
      clear hb3
      obtain ⟨Q, hQ⟩ : ∃ Q, cmpRows x.row row = Q := ⟨_, rfl⟩
      have HQ := hide hQ
      rw [hQ]
      clear hQ
      have HLW := hide SG4.out
      have HBW := hide SG4.out
      by_cases hq : Q = 0
      · subst hq
        obtain rfl : R = x.count := by rw [HE.out, HX1.out, cntF, if_pos HQ.out]
        go_wp2
        all_goals (try (exfalso; go_light; simp_all; done))
        go_ret
        exact ⟨rfl, HBW.out⟩
      · have q0 : (Q == 0) = false := by simpa using hq
        have HN : Hid (R = cntF (bs.drop (k + 1)) row) := hide (by rw [HE.out, HX1.out, cntF, if_neg (by rw [HQ.out]; exact hq)])
        go_wp2
        all_goals (try (exfalso; go_light; simp_all; done))
        go_roundw
        case rel => exact ⟨k + 1, by omega, by go_num, HN.out, HLW.out⟩
        case measure => simp [RowKit.intOf]; omega
    · obtain rfl : R = 0 := by rw [HE.out, drop_end HX.out.len (by omega)]; rfl
      have HBW := hide SG1.out
      go_wp2
      go_ret
      exact ⟨rfl, HBW.out⟩
end Go.Proofs.YtggejcekmehocaaGreatDoor
