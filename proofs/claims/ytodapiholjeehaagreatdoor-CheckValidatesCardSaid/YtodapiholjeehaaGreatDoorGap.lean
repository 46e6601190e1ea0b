/-
  check.Violations. (Printed by gen_vioW.py.) bag.Count: the count of a row. bag.Size, check.total, exact.Within: the numbers that verdicts are made of.
-/
import Derived.Laws.EntriesVeiled
import Derived.Test.YtodapiholjeehaaGreatDoorViolP
import Derived.Test.YtodapiholjeehaaGreatDoorNorm
import Derived.Test.YtodapiholjeehaaGreatDoorChkA
import Derived.Test.YtodapiholjeehaaGreatDoorGab
import Derived.Test.YtodapiholjeehaaGreatDoorGah
namespace Go.Proofs.YtodapiholjeehaaGreatDoor
open Go.RowKit Go.Maps
set_option linter.unusedSimpArgs false
set_option linter.unusedVariables false
theorem OL.ne_new {α : Type} [Rep α] {e : TypeId} {B : Nat} {O : Nat → Prop} {T : List TypeId} {w : World} {v : Value} {xs : List α} (h : OL e B O T w v xs) : some w.heap.size ≠ v.ownBlock := fun q => by
  have := (h.ty q.symm).2.lt
  omega
set_option maxHeartbeats 4000000 in
set_option maxRecDepth 100000 in
theorem violations_p (w : World) (x : Chk) (A : Option Addr) (n c : Nat) (hn : In w A n c x.cols) (A' : Option Addr) (n' c' : Nat) (hn' : In w A' n' c' x.ocols) (A'' : Option Addr) (n'' c'' : Nat) (hq : In w A'' n'' c'' x.cond) (hw : Words w)
    (rn : ByteArray) (A1 : Option Addr) (n1 c1 : Nat) (cols : List Col) (hc : In w A1 n1 c1 cols) (Ak : Option Addr) (nk ck : Nat) (A3 : Option Addr) (n3 c3 : Nat) (rows : List Ent) (hr : In w A3 n3 c3 rows)
    (on : ByteArray) (A2 : Option Addr) (n2 c2 : Nat) (ocols : List Col) (ho : In w A2 n2 c2 ocols) (Al : Option Addr) (nl cl : Nat) (A4 : Option Addr) (n4 c4 : Nat) (orows : List Ent) (hor : In w A4 n4 c4 orows) (A5 : Option Addr) (n5 c5 : Nat) (zs : List Zone) (hz : In w A5 n5 c5 zs) (hb0 : n ≤ 4096) (hb1 : n' ≤ 4096) (hb2 : n1 ≤ 4096) (hb3 : n2 ≤ 4096) (hK : ((x.kind == 0) = true) ∨ ((x.kind == 0) = false ∧ (x.kind == 1) = false ∧ (x.kind == 2) = false ∧ (x.kind == 3) = false ∧ (x.kind == 4) = false)) :
    Calls Tryz.prog 35 #[.agg (chkCells x A n c A' n' c' A'' n'' c'').toArray, .agg #[.string rn, .slice A1 n1 c1, .slice Ak nk ck, .slice A3 n3 c3], .agg #[.string on, .slice A2 n2 c2, .slice Al nl cl, .slice A4 n4 c4], .slice A5 n5 c5] w
      fun e w' => (∃ v, e = .returned (.tuple #[v, .int .i64 (violS x cols ocols rows orows zs).1]) ∧ OE w.heap.size w' v (violS x cols ocols rows orows zs).2) ∧ Below w.heap.size w w' := by
  have HA := hide fun W hn hn' hq hw hc hr ho hor hz => checkAll_any W x A n c hn A' n' c' hn' A'' n'' c'' hq hw rn A1 n1 c1 cols hc Ak nk ck A3 n3 c3 rows hr on A2 n2 c2 ocols ho Al nl cl A4 n4 c4 orows hor A5 n5 c5 zs hz hb0 hb1 hb2 hb3
  have HB := hide fun W hn hn' hq hw hc hr ho hor hz hE => violated_p W x A n c hn A' n' c' hn' A'' n'' c'' hq hw rn A1 n1 c1 cols hc Ak nk ck A3 n3 c3 rows hr on A2 n2 c2 ocols ho Al nl cl A4 n4 c4 orows hor A5 n5 c5 zs hz hb0 hb1 hb2 hb3 hE hK
  have HD := hide (show violS x cols ocols rows orows zs = if allErr x cols ocols rows orows zs ≠ 0 then (allErr x cols ocols rows orows zs, []) else (0, rows.filter fun y => violB x cols ocols rows orows zs y.row) from rfl)
  have HZ0 := hide (fun h => all_zero (c := x) (rc := cols) (oc := ocols) (rr := rows) (orr := orows) (zs := zs) h)
  obtain ⟨R, hR⟩ : ∃ R, violS x cols ocols rows orows zs = R := ⟨_, rfl⟩
  obtain ⟨E, hE⟩ : ∃ E, allErr x cols ocols rows orows zs = E := ⟨_, rfl⟩
  obtain ⟨VB, hVB⟩ : ∃ V, violB x cols ocols rows orows zs = V := ⟨_, rfl⟩
  rw [hR, hE] at HD
  rw [hE] at HA HZ0
  rw [hVB] at HD HB
  simp only [hE] at HB
  rw [hR]
  clear hR hE hVB
  simp only [chkCells] at HA HB ⊢
  go_enter Tryz.func35, Tryz.ntmps35
  have HN := hide hn
  clear hn
  have HN2 := hide hn'
  clear hn'
  have HQ := hide hq
  clear hq
  have HW := hide hw
  clear hw
  have HC := hide hc
  clear hc
  have HO := hide ho
  clear ho
  have HZ := hide hz
  clear hz
  have HR := hide hr
  clear hr
  have HOR := hide hor
  clear hor
  go_wp2_with fail
  obtain ⟨W1, hW1⟩ : ∃ W, W = w.alloc (.cells #[.string x.name, .string x.table, .int .i64 x.kind, .slice A n c, .string x.other, .slice A' n' c', .int .i64 x.low, .int .i64 x.high, .slice A'' n'' c'', .int .i64 x.ln, .int .i64 x.ld, .int .i64 x.mn, .int .i64 x.md, .int .i64 x.policy] 27) := ⟨_, rfl⟩
  obtain ⟨hbW1, SZW1, g0, g1, g2, g3, g4, g5, g6, g7, g8, g9, g10, g11, g12, g13⟩ := boxed14 hW1 rfl
  rw [← hW1]
  clear hW1
  have HN := hide (HN.out.below hbW1)
  have HN2 := hide (HN2.out.below hbW1)
  have HQ := hide (HQ.out.below hbW1)
  have HW := hide (HW.out.below hbW1)
  have HC := hide (HC.out.below hbW1)
  have HO := hide (HO.out.below hbW1)
  have HZ := hide (HZ.out.below hbW1)
  have HR := hide (HR.out.below hbW1)
  have HOR := hide (HOR.out.below hbW1)
  have LST1 := hide hbW1
  have SG1 := hide hbW1
  clear hbW1
  have LR := lt_of_cell g0
  obtain ⟨W2, hW2⟩ : ∃ W, W = W1.alloc (.cells #[.string rn, .slice A1 n1 c1, .slice Ak nk ck, .slice A3 n3 c3] 32) := ⟨_, rfl⟩
  obtain ⟨hbW2, SZW2, r0, r1, r2, r3⟩ := boxed4 (b := w.heap.size + 1) hW2 (by rw [SZW1.out])
  rw [← hW2]
  clear hW2
  have HN := hide (HN.out.below hbW2)
  have HN2 := hide (HN2.out.below hbW2)
  have HQ := hide (HQ.out.below hbW2)
  have HW := hide (HW.out.below hbW2)
  have HC := hide (HC.out.below hbW2)
  have HO := hide (HO.out.below hbW2)
  have HZ := hide (HZ.out.below hbW2)
  have HR := hide (HR.out.below hbW2)
  have HOR := hide (HOR.out.below hbW2)
  have g0 := bat hbW2 LR g0
  have g1 := bat hbW2 LR g1
  have g2 := bat hbW2 LR g2
  have g3 := bat hbW2 LR g3
  have g4 := bat hbW2 LR g4
  have g5 := bat hbW2 LR g5
  have g6 := bat hbW2 LR g6
  have g7 := bat hbW2 LR g7
  have g8 := bat hbW2 LR g8
  have g9 := bat hbW2 LR g9
  have g10 := bat hbW2 LR g10
  have g11 := bat hbW2 LR g11
  have g12 := bat hbW2 LR g12
  have g13 := bat hbW2 LR g13
  have LR := lt_of_cell g0
  have LST2 := hide hbW2
  have SG2 := hide (below_trans SG1.out hbW2)
  clear hbW2
  have L2 := lt_of_cell r0
  obtain ⟨W3, hW3⟩ : ∃ W, W = W2.alloc (.cells #[.string on, .slice A2 n2 c2, .slice Al nl cl, .slice A4 n4 c4] 32) := ⟨_, rfl⟩
  obtain ⟨hbW3, SZW3, s0, s1, s2, s3⟩ := boxed4 (b := w.heap.size + 1 + 1) hW3 (by rw [SZW2.out, SZW1.out])
  rw [← hW3]
  clear hW3
  have HN := hide (HN.out.below hbW3)
  have HN2 := hide (HN2.out.below hbW3)
  have HQ := hide (HQ.out.below hbW3)
  have HW := hide (HW.out.below hbW3)
  have HC := hide (HC.out.below hbW3)
  have HO := hide (HO.out.below hbW3)
  have HZ := hide (HZ.out.below hbW3)
  have HR := hide (HR.out.below hbW3)
  have HOR := hide (HOR.out.below hbW3)
  have g0 := bat hbW3 LR g0
  have g1 := bat hbW3 LR g1
  have g2 := bat hbW3 LR g2
  have g3 := bat hbW3 LR g3
  have g4 := bat hbW3 LR g4
  have g5 := bat hbW3 LR g5
  have g6 := bat hbW3 LR g6
  have g7 := bat hbW3 LR g7
  have g8 := bat hbW3 LR g8
  have g9 := bat hbW3 LR g9
  have g10 := bat hbW3 LR g10
  have g11 := bat hbW3 LR g11
  have g12 := bat hbW3 LR g12
  have g13 := bat hbW3 LR g13
  have LR := lt_of_cell g0
  have r0 := bat hbW3 L2 r0
  have r1 := bat hbW3 L2 r1
  have r2 := bat hbW3 L2 r2
  have r3 := bat hbW3 L2 r3
  have L2 := lt_of_cell r0
  have LST3 := hide hbW3
  have SG3 := hide (below_trans SG2.out hbW3)
  clear hbW3
  have L3 := lt_of_cell s0
  go_wp2_with fail
  refine (HA.out _ HN.out HN2.out HQ.out HW.out HC.out HR.out HO.out HOR.out HZ.out).mono ?_
  rintro e w4 ⟨rfl, hb4⟩
  have HN := hide (HN.out.below hb4)
  have HN2 := hide (HN2.out.below hb4)
  have HQ := hide (HQ.out.below hb4)
  have HW := hide (HW.out.below hb4)
  have HC := hide (HC.out.below hb4)
  have HO := hide (HO.out.below hb4)
  have HZ := hide (HZ.out.below hb4)
  have HR := hide (HR.out.below hb4)
  have HOR := hide (HOR.out.below hb4)
  have g0 := bat hb4 LR g0
  have g1 := bat hb4 LR g1
  have g2 := bat hb4 LR g2
  have g3 := bat hb4 LR g3
  have g4 := bat hb4 LR g4
  have g5 := bat hb4 LR g5
  have g6 := bat hb4 LR g6
  have g7 := bat hb4 LR g7
  have g8 := bat hb4 LR g8
  have g9 := bat hb4 LR g9
  have g10 := bat hb4 LR g10
  have g11 := bat hb4 LR g11
  have g12 := bat hb4 LR g12
  have g13 := bat hb4 LR g13
  have LR := lt_of_cell g0
  have r0 := bat hb4 L2 r0
  have r1 := bat hb4 L2 r1
  have r2 := bat hb4 L2 r2
  have r3 := bat hb4 L2 r3
  have L2 := lt_of_cell r0
  have s0 := bat hb4 L3 s0
  have s1 := bat hb4 L3 s1
  have s2 := bat hb4 L3 s2
  have s3 := bat hb4 L3 s3
  have L3 := lt_of_cell s0
  have LST5 := hide hb4
  have SG5 := hide (below_trans SG3.out hb4)
  clear hb4
  by_cases hE0 : E = 0
  rotate_left
  · have q0 : (E != 0) = true := by simpa using hE0
    have HRE : Hid (R = (E, [])) := hide (by rw [HD.out, if_pos hE0])
    obtain rfl := HRE.out
    go_wp2
    all_goals (try (exfalso; go_light; simp_all; done))
    go_ret2
    exact ⟨⟨_, rfl, OL.nil SG5.out.size⟩, SG5.out⟩
  subst hE0
  go_wp2_with fail
  refine (HB.out _ HN.out HN2.out HQ.out HW.out HC.out HR.out HO.out HOR.out HZ.out (by first | rfl | trivial)).mono ?_
  rintro e w6 ⟨⟨fv, rfl, hbad⟩, hb6⟩
  have HN := hide (HN.out.below hb6)
  have HN2 := hide (HN2.out.below hb6)
  have HQ := hide (HQ.out.below hb6)
  have HW := hide (HW.out.below hb6)
  have HC := hide (HC.out.below hb6)
  have HO := hide (HO.out.below hb6)
  have HZ := hide (HZ.out.below hb6)
  have HR := hide (HR.out.below hb6)
  have HOR := hide (HOR.out.below hb6)
  have g0 := bat hb6 LR g0
  have g1 := bat hb6 LR g1
  have g2 := bat hb6 LR g2
  have g3 := bat hb6 LR g3
  have g4 := bat hb6 LR g4
  have g5 := bat hb6 LR g5
  have g6 := bat hb6 LR g6
  have g7 := bat hb6 LR g7
  have g8 := bat hb6 LR g8
  have g9 := bat hb6 LR g9
  have g10 := bat hb6 LR g10
  have g11 := bat hb6 LR g11
  have g12 := bat hb6 LR g12
  have g13 := bat hb6 LR g13
  have LR := lt_of_cell g0
  have r0 := bat hb6 L2 r0
  have r1 := bat hb6 L2 r1
  have r2 := bat hb6 L2 r2
  have r3 := bat hb6 L2 r3
  have L2 := lt_of_cell r0
  have s0 := bat hb6 L3 s0
  have s1 := bat hb6 L3 s1
  have s2 := bat hb6 L3 s2
  have s3 := bat hb6 L3 s3
  have L3 := lt_of_cell s0
  have LST7 := hide hb6
  have SG7 := hide (below_trans SG5.out hb6)
  clear hb6
  have HBAD := hide hbad
  have HTZ := hide (tabErr_zero (HZ0.out (by first | rfl | trivial)).2.1)
  have HRL := hide (bag_zero HTZ.out.1 HTZ.out.2.1)
  have hn3 : n3 ≤ 4096 := by have := HRL.out.1; rw [HR.out.len] at this; exact this
  have HLEN := hide HR.out.len
  have h63 := HR.out.le
  clear hbad
  obtain ⟨k9, caps, rfl, hcf, hcall⟩ := HBAD.out
  have HCALL := hide hcall
  clear hcall HBAD
  clear LR g0 g1 g2 g3 g4 g5 g6 g7 g8 g9 g10 g11 g12 g13
  clear L3 s0 s1 s2 s3
  obtain ⟨W5, rfl⟩ : ∃ W, W = w6 := ⟨_, rfl⟩
  have HOS := hide SG7.out.size
  go_wp2
  go_loopw [12, 31] (fun o i wr => ∃ (k : Nat) (ys : List Ent), k ≤ n3 ∧ i = .int .i64 k ∧ ys = (rows.take k).filter (fun y => VB y.row) ∧ ys.length ≤ k ∧ OE W5.heap.size wr o ys ∧ Below W5.heap.size W5 wr) (fun _ i _ => n3 - (RowKit.intOf i).toNat)
  case atStart => exact ⟨0, [], Nat.zero_le _, rfl, by simp, by simp, OL.nil (Nat.le_refl _), Below.refl _ _⟩
  case round =>
    obtain ⟨k, ys, hk, rfl, hys, hyl, hol, hb⟩ := hrel
    have HYS := hide hys
    have HOL := hide hol
    clear hys hol
    have HN := hide (HN.out.below hb)
    have HN2 := hide (HN2.out.below hb)
    have HQ := hide (HQ.out.below hb)
    have HW := hide (HW.out.below hb)
    have HC := hide (HC.out.below hb)
    have HO := hide (HO.out.below hb)
    have HZ := hide (HZ.out.below hb)
    have HR := hide (HR.out.below hb)
    have HOR := hide (HOR.out.below hb)
    have r0 := bat hb L2 r0
    have r1 := bat hb L2 r1
    have r2 := bat hb L2 r2
    have r3 := bat hb L2 r3
    have L2 := lt_of_cell r0
    have LST8 := hide hb
    have SG8 := hide hb
    clear hb
    by_cases hlt : k < n3
    · obtain ⟨b, off, y, rfl, hBb, HX, Ax, An, Ac, e0, e1, e2, e3⟩ := HR.out.ent hlt
      have k0 : (0 : Int) ≤ (k : Int) := by omega
      have k1 : (k : Int) < (n3 : Int) := by omega
      have HFIT := hide (HTZ.out.2.2 y (mem_of_drop HX.out))
      have HE2 := hide e2
      have HWR := hide SG8.out
      have HWB := hide (below_trans SG7.out SG8.out)
      clear e2
      go_wp2_with fail
      refine (HCALL.out _ (by exact below_trans SG8.out below_alloc) _ _ _ y.row (by exact HE2.out.below below_alloc) HFIT.out).mono ?_
      rintro e w8 ⟨rfl, hb8⟩
      have x0 := bat (b := wr.heap.size) (o := 0) (v := .slice Ax An Ac) hb8 (by simp) (by simp [go_sem])
      have x1 := bat (b := wr.heap.size) (o := 1) (v := .int .i64 y.count) hb8 (by simp) (by simp [go_sem])
      have hb9 := below_trans below_alloc hb8
      clear e0 e1 hb8
      have HN := hide (HN.out.below hb9)
      have HN2 := hide (HN2.out.below hb9)
      have HQ := hide (HQ.out.below hb9)
      have HW := hide (HW.out.below hb9)
      have HC := hide (HC.out.below hb9)
      have HO := hide (HO.out.below hb9)
      have HZ := hide (HZ.out.below hb9)
      have HR := hide (HR.out.below hb9)
      have HOR := hide (HOR.out.below hb9)
      have r0 := bat hb9 L2 r0
      have r1 := bat hb9 L2 r1
      have r2 := bat hb9 L2 r2
      have r3 := bat hb9 L2 r3
      have L2 := lt_of_cell r0
      have LST9 := hide hb9
      have SG9 := hide (below_trans SG8.out hb9)
      clear hb9
      have HNE := hide HOL.out.ne_new
      have HE8 := hide (HE2.out.below LST9.out)
      have HOL8 := hide (HOL.out.below LST9.out)
      have LX := lt_of_cell x0
      have X0 := hide x0
      have X1 := hide x1
      have HBW := hide (below_trans SG7.out SG9.out)
      have HLW := hide SG9.out
      have hyl2 := hyl
      cases hv : VB y.row
      · have HN : Hid (ys = (rows.take (k + 1)).filter (fun y => VB y.row)) := hide (by rw [take_snoc HX.out, List.filter_append, HYS.out, List.filter_cons_of_neg (by simp [hv])]; simp)
        go_wp2
        go_roundw
        case rel => exact ⟨k + 1, ys, by omega, by go_num, HN.out, by omega, HOL8.out, HLW.out⟩
        case measure => simp [RowKit.intOf]; omega
      · have HN : Hid (ys ++ [y] = (rows.take (k + 1)).filter (fun y => VB y.row)) := hide (by rw [take_snoc HX.out, List.filter_append, HYS.out, List.filter_cons_of_pos (by simp [hv])]; simp)
        have hk63 : ys.length + 1 ≤ maxLen := by simp only [maxLen]; omega
        have hk64 : (ys.length + 1) * 32 ≤ 140737488355328 := by omega
        have hrl : An ≤ 1048576 := by have h1 := HC.out.len; rw [← HE2.out.len, rowErr_len HFIT.out]; omega
        go_wp2
        go_region_held3 (fun V => V.cell? ⟨wr.heap.size, 0, none⟩ = some (.slice Ax An Ac) ∧ V.cell? ⟨wr.heap.size, 1, none⟩ = some (.int .i64 y.count))
          (first | exact ⟨y0, y1⟩ | exact ⟨bat HB6.out LX X0.out, bat HB6.out LX X1.out⟩ | exact ⟨x0, x1⟩ | go_keep)
          (first
            | (go_at_call 80; refine (clone_any _ Ax An Ac y.row (by exact HE8.out.below (Below.refl _ _).drew) hrl).mono ?_; rintro e w6 ⟨⟨A6, c6, rfl, hs6⟩, hb6⟩; have HB6 := hide (below_undrew hb6); have HS6 := hide (hs6.mono fun k hk => show BS W5.heap.size (fun _ => False) [85] w6 k from .inr ⟨Nat.le_trans HLW.out.size hk.1, _, by simp, hk.2⟩); have HO6 := hide (HOL8.out.below HB6.out); clear hs6 hb6)
            | (refine step_push_OL _ rfl _ _ _ rfl elem_ents (by decide) w6 _ rfl HO6.out (by simp [Act.eval, Act.put]) (by simp [Act.eval, Act.put]) ⟨y.row, y.count⟩ ⟨_, _, _, rfl, HS6.out, e3⟩ hk63 hk64 ?_; intro v9 w9 ho9 hb9 hg9 hat9; have HO9 := hide ho9; have y0 := (World.cell?_of_block (a := ⟨wr.heap.size, 0, none⟩) (hg9.block wr.heap.size (lt_of_cell (bat HB6.out LX X0.out)) HNE.out)).trans (bat HB6.out LX X0.out); have y1 := (World.cell?_of_block (a := ⟨wr.heap.size, 1, none⟩) (hg9.block wr.heap.size (lt_of_cell (bat HB6.out LX X1.out)) HNE.out)).trans (bat HB6.out LX X1.out); have HB9 := hide (HLW.out.trans ((HB6.out.mono HLW.out.size).trans hb9)); clear ho9 hb9 hg9 hat9))
        go_wp2
        go_roundw
        case rel => exact ⟨k + 1, ys ++ [y], by omega, by go_num, HN.out, by simp; omega, HO9.out, HB9.out⟩
        case measure => simp [RowKit.intOf]; omega
    · have HT : Hid (ys = rows.filter fun y => VB y.row) := hide (by rw [HYS.out, List.take_of_length_le (by rw [HLEN.out]; omega)])
      have HRE : Hid (R = (0, ys)) := hide (by rw [HD.out, HT.out]; simp)
      have HOL8 := hide HOL.out
      have HBW := hide (below_trans SG7.out SG8.out)
      obtain rfl := HRE.out
      go_wp2
      go_ret2
      exact ⟨⟨_, rfl, HOL8.out.rebase HOS.out⟩, HBW.out⟩
end Go.Proofs.YtodapiholjeehaaGreatDoor

namespace Go.Proofs.YtodapiholjeehaaGreatDoor
open Go.RowKit
set_option linter.unusedSimpArgs false
set_option linter.unusedVariables false
def cntF : List Ent → List Val → Int
  | [], _ => 0
  | x :: l, r => if cmpRows x.row r = 0 then x.count else cntF l r
set_option maxHeartbeats 2000000 in
set_option maxRecDepth 100000 in
theorem count_any (w : World) (A : Option Addr) (n c : Nat) (bs : List Ent) (hx : In w A n c bs) (A2 : Option Addr) (n2 c2 : Nat) (row : List Val) (hy : In w A2 n2 c2 row) :
    Calls Tryz.prog 64 #[.slice A n c, .slice A2 n2 c2] w fun e w' => e = .returned (.int .i64 (cntF bs row)) ∧ Below w.heap.size w w' := by
  obtain ⟨R, hR⟩ : ∃ R, cntF bs row = R := ⟨_, rfl⟩
  have HR := hide hR
  rw [hR]
  clear hR
  have HL := hide hx.len
  have h63 := hx.le
  go_enter Tryz.func64, Tryz.ntmps64
  have HX := hide hx
  clear hx
  have HY := hide hy
  clear hy
  go_wp2
  go_loopw [9] (fun i wr => ∃ k : Nat, k ≤ n ∧ i = .int .i64 k ∧ R = cntF (bs.drop k) row ∧ Below w.heap.size w wr) (fun i _ => n - (RowKit.intOf i).toNat)
  case atStart => exact ⟨0, Nat.zero_le _, rfl, HR.out.symm, Below.refl _ _⟩
  case round =>
    obtain ⟨k, hk, rfl, heq, hb⟩ := hrel
    have HE := hide heq
    clear heq
    have HX := hide (HX.out.below hb)
    have HY := hide (HY.out.below hb)
    have LST1 := hide hb
    have SG1 := hide hb
    clear hb
    by_cases hlt : k < n
    · obtain ⟨b, off, x, rfl, hBb, HX1, Ax, An, Ac, e0, e1, e2, e3⟩ := HX.out.ent hlt
      have HI := hide e2
      clear e2
      go_wp2_with fail
      obtain ⟨W6, hW6⟩ : ∃ W, W = wr.alloc (.cells #[.slice Ax An Ac, .int .i64 x.count] 61) := ⟨_, rfl⟩
      obtain ⟨hbW6, SZW6, x0, x1⟩ := boxed2 hW6 rfl
      rw [← hW6]
      clear hW6
      have HX := hide (HX.out.below hbW6)
      have HY := hide (HY.out.below hbW6)
      have LST2 := hide hbW6
      have SG2 := hide (below_trans SG1.out hbW6)
      clear hbW6
      have L6 := lt_of_cell x0
      have HI6 := hide (HI.out.below LST2.out)
      go_wp2_with fail
      refine (compareRows_any _ Ax A2 An n2 Ac c2 x.row row (by exact HI6.out) HY.out).mono ?_
      rintro e w3 ⟨rfl, hb3⟩
      have HX := hide (HX.out.below hb3)
      have HY := hide (HY.out.below hb3)
      have x0 := bat hb3 L6 x0
      have x1 := bat hb3 L6 x1
      have L6 := lt_of_cell x0
      have LST4 := hide hb3
      have SG4 := hide (below_trans SG2.out hb3)
      clear hb3
      obtain ⟨Q, hQ⟩ : ∃ Q, cmpRows x.row row = Q := ⟨_, rfl⟩
      have HQ := hide hQ
      rw [hQ]
      clear hQ
      have HLW := hide SG4.out
      have HBW := hide SG4.out
      by_cases hq : Q = 0
      · subst hq
        obtain rfl : R = x.count := by rw [HE.out, HX1.out, cntF, if_pos HQ.out]
        go_wp2
        all_goals (try (exfalso; go_light; simp_all; done))
        go_ret
        exact ⟨rfl, HBW.out⟩
      · have q0 : (Q == 0) = false := by simpa using hq
        have HN : Hid (R = cntF (bs.drop (k + 1)) row) := hide (by rw [HE.out, HX1.out, cntF, if_neg (by rw [HQ.out]; exact hq)])
        go_wp2
        all_goals (try (exfalso; go_light; simp_all; done))
        go_roundw
        case rel => exact ⟨k + 1, by omega, by go_num, HN.out, HLW.out⟩
        case measure => simp [RowKit.intOf]; omega
    · obtain rfl : R = 0 := by rw [HE.out, drop_end HX.out.len (by omega)]; rfl
      have HBW := hide SG1.out
      go_wp2
      go_ret
      exact ⟨rfl, HBW.out⟩
end Go.Proofs.YtodapiholjeehaaGreatDoor

namespace Go.Proofs.YtodapiholjeehaaGreatDoor
open Go.RowKit
set_option linter.unusedSimpArgs false
set_option linter.unusedVariables false
def colSum (at_ : Nat) : List Ent → Int
  | [] => 0
  | x :: l => (x.row.getD at_ zeroV).num * x.count + colSum at_ l
theorem colSum_app (k : Nat) (l m : List Ent) : colSum k (l ++ m) = colSum k l + colSum k m := by
  induction l with
  | nil => simp [colSum]
  | cons x l ih => rw [List.cons_append, colSum, colSum, ih]; omega
theorem mulC_bd {a c : Int} (h1 : -1073741824 ≤ a) (h2 : a ≤ 1073741824) (h3 : 0 < c) (h4 : c ≤ 65536) : -70368744177664 ≤ a * c ∧ a * c ≤ 70368744177664 := by
  have i1 : a * c ≤ 1073741824 * c := Int.mul_le_mul_of_nonneg_right h2 (by omega)
  have i2 : -1073741824 * c ≤ a * c := Int.mul_le_mul_of_nonneg_right h1 (by omega)
  omega
theorem colSum_abs {k : Nat} {l : List Ent} (h : ∀ x ∈ l, 0 < x.count ∧ x.count ≤ 65536) (hv : ∀ x ∈ l, -1073741824 ≤ (x.row.getD k zeroV).num ∧ (x.row.getD k zeroV).num ≤ 1073741824) :
    -(70368744177664 * (l.length : Int)) ≤ colSum k l ∧ colSum k l ≤ 70368744177664 * (l.length : Int) := by
  induction l with
  | nil => simp [colSum]
  | cons x l ih =>
    have h1 := h x (by simp)
    have h2 := hv x (by simp)
    have h3 := ih (fun y hy => h y (by simp [hy])) (fun y hy => hv y (by simp [hy]))
    have h4 := mulC_bd h2.1 h2.2 h1.1 h1.2
    rw [colSum, List.length_cons]
    omega
theorem validC_num {v : Val} (h : valid v = true) : -1073741824 ≤ v.num ∧ v.num ≤ 1073741824 := by
  rcases valid_cases h with h | h | h | h | h <;> omega
set_option maxHeartbeats 2000000 in
set_option maxRecDepth 100000 in
theorem total_any (w : World) (rn : ByteArray) (A1 : Option Addr) (n1 c1 : Nat) (cols : List Col) (hc : In w A1 n1 c1 cols) (Ak : Option Addr) (nk ck : Nat) (A3 : Option Addr) (n3 c3 : Nat) (rows : List Ent) (hr : In w A3 n3 c3 rows) (nm : ByteArray)
    (at_ : Nat) (hat : index cols nm = (at_ : Int)) (hlt_ : at_ < cols.length) (hT : tabErr cols rows = 0) :
    Calls Tryz.prog 83 #[.agg #[.string rn, .slice A1 n1 c1, .slice Ak nk ck, .slice A3 n3 c3], .string nm] w fun e w' => e = .returned (.int .i64 (colSum at_ rows)) ∧ Below w.heap.size w w' := by
  obtain ⟨hbz, htz, hrz⟩ := tabErr_zero hT
  obtain ⟨hrl, hrc⟩ := bag_zero hbz htz
  have HRC := hide hrc
  have HRZ := hide hrz
  have HLN := hide hr.len
  have HAT := hide hat
  have HALT := hide hlt_
  have h63 := hr.le
  have hn3 : n3 ≤ 4096 := by rw [← hr.len]; exact hrl
  have HVB : Hid (∀ x ∈ rows, -1073741824 ≤ (x.row.getD at_ zeroV).num ∧ (x.row.getD at_ zeroV).num ≤ 1073741824) := hide fun x hx => by
    have h1 := rowErr_len (hrz x hx)
    have h2 : at_ < x.row.length := by omega
    rw [List.getD_eq_getElem?_getD, List.getElem?_eq_getElem h2]
    exact validC_num (fit_valid (hrz x hx) (List.getElem?_eq_getElem h2))
  clear hbz htz hrz hrl hrc hT hat hlt_
  go_enter Tryz.func83, Tryz.ntmps83
  have HC := hide hc
  clear hc
  have HR := hide hr
  clear hr
  go_wp2_with fail
  obtain ⟨W1, hW1⟩ : ∃ W, W = w.alloc (.cells #[.string rn, .slice A1 n1 c1, .slice Ak nk ck, .slice A3 n3 c3] 32) := ⟨_, rfl⟩
  obtain ⟨hbW1, SZW1, g0, g1, g2, g3⟩ := boxed4 hW1 rfl
  rw [← hW1]
  clear hW1
  have HC := hide (HC.out.below hbW1)
  have HR := hide (HR.out.below hbW1)
  have LST4 := hide hbW1
  have SG4 := hide hbW1
  clear hbW1
  have LR := lt_of_cell g0
  go_wp2_with fail
  refine (index_any _ A1 n1 c1 cols HC.out nm).mono ?_
  rintro e w5 ⟨rfl, hb5⟩
  have HC := hide (HC.out.below hb5)
  have HR := hide (HR.out.below hb5)
  have g0 := bat hb5 LR g0
  have g1 := bat hb5 LR g1
  have g2 := bat hb5 LR g2
  have g3 := bat hb5 LR g3
  have LR := lt_of_cell g0
  have LST6 := hide hb5
  have SG6 := hide (below_trans SG4.out hb5)
  clear hb5
  rw [HAT.out]
  obtain ⟨W3, rfl⟩ : ∃ W, W = w5 := ⟨_, rfl⟩
  go_wp2
  go_loopw [6, 16] (fun s i wr => ∃ k : Nat, k ≤ n3 ∧ i = .int .i64 k ∧ s = .int .i64 (colSum at_ (rows.take k)) ∧ Below W3.heap.size W3 wr) (fun _ i _ => n3 - (RowKit.intOf i).toNat)
  case atStart => exact ⟨0, Nat.zero_le _, rfl, by simp [colSum], Below.refl _ _⟩
  case round =>
    obtain ⟨k, hk, rfl, rfl, hb⟩ := hrel
    have HC := hide (HC.out.below hb)
    have HR := hide (HR.out.below hb)
    have g0 := bat hb LR g0
    have g1 := bat hb LR g1
    have g2 := bat hb LR g2
    have g3 := bat hb LR g3
    have LR := lt_of_cell g0
    have LST7 := hide hb
    have SG7 := hide hb
    clear hb
    have HLW := hide SG7.out
    have HBW := hide (below_trans SG6.out SG7.out)
    by_cases hlt : k < n3
    · obtain ⟨b, off, x, rfl, hBb, HX1, Ax, An, Ac, e0, e1, e2, e3⟩ := HR.out.ent hlt
      have hxm := mem_of_drop HX1.out
      have hal : at_ < An := by have h1 := rowErr_len (HRZ.out x hxm); have h2 := e2.len; have h3 := HALT.out; omega
      obtain ⟨bv, ov, v, rfl, hBv, HV, v0, v1, v2, vok⟩ := e2.val hal
      have HVN : Hid ((x.row.getD at_ zeroV).num = v.num) := hide (by rw [getD_dr HV.out])
      have HN : Hid (colSum at_ (rows.take (k + 1)) = colSum at_ (rows.take k) + v.num * x.count) := hide (by rw [take_snoc HX1.out, colSum_app, ← HVN.out]; simp [colSum])
      have hbd := colSum_abs (k := at_) (l := rows.take k) (fun y hy => HRC.out y (List.mem_of_mem_take hy)) (fun y hy => HVB.out y (List.mem_of_mem_take hy))
      have hlk : (rows.take k).length ≤ 4096 := by rw [List.length_take]; omega
      have hxc := HRC.out x hxm
      have hvb := HVB.out x hxm
      rw [HVN.out] at hvb
      have hm := mulC_bd hvb.1 hvb.2 hxc.1 hxc.2
      obtain ⟨F, hF⟩ : ∃ F, colSum at_ (rows.take k) = F := ⟨_, rfl⟩
      rw [hF] at hbd HN ⊢
      clear hF
      obtain ⟨vn, hvn⟩ : ∃ q, v.num = q := ⟨_, rfl⟩
      rw [hvn] at v1 HN hvb hm
      have hwm : IntKind.i64.wrap (vn * x.count) = vn * x.count := IntWalk.i64_in _ (by omega)
      have hwr : IntKind.i64.wrap (F + vn * x.count) = F + vn * x.count := IntWalk.i64_in _ (by omega)
      have HLA := hide (below_trans HLW.out (below_alloc (o := .cells #[.slice (some ⟨bv, ov, none⟩) An Ac, .int .i64 x.count] 61)))
      have a0 : (0 : Int) ≤ (at_ : Int) := by omega
      have a1 : (at_ : Int) < (An : Int) := by omega
      have w1 : (wr.alloc (.cells #[.slice (some ⟨bv, ov, none⟩) An Ac, .int .i64 x.count] 61)).cell? ⟨bv, ov + at_ * 3 + 1, none⟩ = some (.int .i64 vn) := bat below_alloc hBv v1
      clear hbd hlk hxc hvb hm e2 v0 v2 hvn HVN
      go_wp2
      go_quiet (fail)
      go_wp2
      go_roundw
      case rel => exact ⟨k + 1, by omega, by go_num, by rw [HN.out], below_drewN HLA.out _⟩
      case measure => simp [RowKit.intOf]; omega
    · have HT : Hid (rows.take k = rows) := hide (List.take_of_length_le (by rw [HLN.out]; omega))
      rw [HT.out]
      go_wp2
      go_ret
      exact ⟨rfl, HBW.out⟩
def withinB (p w n d m e : Int) : Bool := !(decide (p < 0) || decide (w < p) || decide (1073741824 < w) || !formedB n d || !formedB m e) && (w == 0 || (decide (n * w ≤ p * d) && decide (p * e ≤ m * w)))
end Go.Proofs.YtodapiholjeehaaGreatDoor
