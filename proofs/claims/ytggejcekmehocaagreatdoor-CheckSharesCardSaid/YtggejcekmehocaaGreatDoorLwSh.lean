/-
  warehouselaw28.CheckShares.
-/
import Derived.Test.YtggejcekmehocaaGreatDoorGav
import Derived.Test.YtggejcekmehocaaGreatDoorGax
import Derived.Test.YtggejcekmehocaaGreatDoorGab
namespace Go.Proofs.YtggejcekmehocaaGreatDoor
open Go.RowKit Go.Maps
set_option linter.unusedSimpArgs false
set_option linter.unusedVariables false
theorem cells_nodes (xs : List Node) (w : World) (S : Nat → Prop) (h : ∀ x ∈ xs, x.ok) : Cells w S (xs.flatMap Node.cells) xs := by
  induction xs with
  | nil => rfl
  | cons x l ih => exact ⟨x.cells, l.flatMap Node.cells, rfl, ⟨rfl, h x (by simp)⟩, ih fun y hy => h y (by simp [hy])⟩
theorem shL_ok : ∀ x ∈ shL, x.ok := by
  intro x hx
  simp only [shL, List.mem_cons, List.not_mem_nil, or_false] at hx
  rcases hx with rfl | rfl | rfl <;> refine ⟨⟨by decide, by decide⟩, ⟨⟨by decide, by decide⟩, ⟨by decide, by decide⟩, ?_⟩, ?_, ⟨by decide, by decide⟩⟩ <;> (unfold Str; decide)
theorem shL_in (W : World) : In (W.alloc (.cells #[.int .i64 1, .int .i64 0, .int .i64 0, .string ⟨#[]⟩, .string ⟨#[105, 100]⟩, .int .i64 0, .int .i64 0, .int .i64 2, .int .i64 2, .string ⟨#[]⟩, .string ⟨#[]⟩, .int .i64 0, .int .i64 12, .int .i64 0, .int .i64 0, .string ⟨#[]⟩, .string ⟨#[]⟩, .int .i64 0] 77)) (some ⟨W.heap.size, 0, none⟩) 3 3 shL :=
  in_built (heap_alloc_new W _) (cells_nodes shL _ _ shL_ok) rfl (by decide)
theorem shPart_step {rows : List Ent} {k : Nat} {x : Ent} (hx : rows.drop k = x :: rows.drop (k + 1)) : totC (rows.take (k + 1)) = totC (rows.take k) + x.count ∧ shPart (rows.take (k + 1)) = shPart (rows.take k) + if (x.row.getD 0 default).num < 2 then x.count else 0 := by
  rw [take_snoc hx]
  refine ⟨by rw [totC_app]; simp [totC], ?_⟩
  rw [shPart, List.filter_append, totC_app, shPart]
  congr 1
  by_cases h : (x.row.getD 0 default).num < 2
  · rw [if_pos h, List.filter_cons, if_pos (by simpa using h)]; simp [totC]
  · rw [if_neg h, List.filter_cons, if_neg (by simpa using h)]; simp [totC]
theorem sh_part {rows : List Ent} (hr : TabOf shCols rows) (k : Nat) : (0 ≤ shPart (rows.take k) ∧ shPart (rows.take k) ≤ 2000000) ∧ 0 ≤ totC (rows.take k) ∧ totC (rows.take k) ≤ 2000000 := by
  have h1 := hr.tab (by simp [shCols])
  have h2 := hr.bag (by simp [shCols])
  have hk : (rows.take k).length ≤ 1000 := by rw [List.length_take]; omega
  have h3 := totC_bd (l := rows.take k) (C := 2000) fun x hx => by have := h1.1 x (List.mem_of_mem_take hx); omega
  have h4 := totC_bd (l := (rows.take k).filter fun y => decide ((y.row.getD 0 default).num < 2)) (C := 2000) fun x hx => by have := h1.1 x (List.mem_of_mem_take (List.mem_filter.1 hx).1); omega
  have h5 : ((rows.take k).filter fun y => decide ((y.row.getD 0 default).num < 2)).length ≤ (rows.take k).length := List.length_filter_le _ _
  exact ⟨⟨h4.1, by have := h4.2; rw [shPart]; omega⟩, h3.1, by omega⟩
theorem mul_sm {x y : Int} (h0 : 0 ≤ x) (h1 : x ≤ 2000000) (h2 : 0 ≤ y) (h3 : y ≤ 8) : IntKind.i64.wrap (x * y) = x * y := by
  have i1 : 0 ≤ x * y := Int.mul_nonneg h0 h2
  have i2 : x * y ≤ 2000000 * 8 := Int.le_trans (Int.mul_le_mul_of_nonneg_right h1 h2) (Int.mul_le_mul_of_nonneg_left h3 (by omega))
  exact IntWalk.i64_in _ (by omega)
theorem sh_call {rows : List Ent} (hto : TabOf shCols rows) (W : World) (p q r s : Int) (h : (ratioOk p q && ratioOk r s) = true) (Aq : Option Addr) (hq : In W Aq 3 3 shL) (hw : Words W) (Ac : Option Addr) (hc : In W Ac 3 3 shCols) (A5 : Option Addr) (m5 c5 : Nat) (hr : In W A5 m5 c5 rows) :
    Calls Tryz.prog 30 #[.agg #[.string ⟨#[99]⟩, .string ⟨#[]⟩, .int .i64 5, .slice none 0 0, .string ⟨#[]⟩, .slice none 0 0, .int .i64 0, .int .i64 0, .slice Aq 3 3, .int .i64 p, .int .i64 q, .int .i64 r, .int .i64 s, .int .i64 1], .agg #[.string ⟨#[]⟩, .slice Ac 3 3, .slice none 0 0, .slice A5 m5 c5], .agg #[.string ⟨#[]⟩, .slice none 0 0, .slice none 0 0, .slice none 0 0], .slice none 0 0] W
      fun e w' => e = .returned (.tuple #[.agg #[.string ⟨#[99]⟩, .bool (!(totC rows == 0 || (decide (p * totC rows ≤ shPart rows * q) && decide (shPart rows * s ≤ r * totC rows)))), .int .i64 0, .int .i64 (shPart rows), .int .i64 (totC rows)], .int .i64 0]) ∧ Below W.heap.size W w' := by
  have h1 := judge_share W (shChk p q r s) none 0 0 In.nil_ none 0 0 In.nil_ Aq 3 3 hq hw ⟨#[]⟩ Ac 3 3 shCols hc none 0 0 A5 m5 c5 rows hr ⟨#[]⟩ none 0 0 [] In.nil_ none 0 0 none 0 0 [] In.nil_ none 0 0 [] In.nil_ (by omega) (by omega) (by omega) (by omega) (sh_err h hto [] []) rfl
  rw [sh_judge h hto] at h1
  exact h1
set_option maxHeartbeats 4000000 in
set_option maxRecDepth 100000 in
theorem lawSh28_any (w : World) (A : Option Addr) (n c : Nat) (l : List Int) (hl : In w A n c l) (a b d : Int) (hw : Words w) :
    Calls Tryz.prog 10 #[.slice A n c, .int .i64 a, .int .i64 b, .int .i64 d] w fun e w' => e = .returned (.bool true) ∧ Below w.heap.size w w' := by
  have h63 := hl.le
  by_cases q0 : 80 < n
  · have d0 : (80 : Int) < (n : Int) := by omega
    go_enter Tryz.func10, Tryz.ntmps10
    have HW := hide hw
    clear hw
    go_wp2_with fail
    all_goals (try (exfalso; go_light; simp_all; done))
    refine (known28_any _ HW.out).mono ?_
    rintro e w1 ⟨rfl, hb1⟩
    have SG2 := hide hb1
    clear hb1
    go_wp2
    go_ret
    exact ⟨rfl, SG2.out⟩
  have d0 : ¬ (80 : Int) < (n : Int) := by omega
  go_enter Tryz.func10, Tryz.ntmps10
  have HW := hide hw
  clear hw
  have HL := hide hl
  clear hl
  go_wp2_with fail
  all_goals (try (exfalso; go_light; simp_all; done))
  obtain ⟨W1, hW1⟩ : ∃ W, W = w.alloc (.cells #[.int .i64 1, .int .i64 0, .int .i64 0, .string ⟨#[]⟩, .string ⟨#[105, 100]⟩, .int .i64 0, .int .i64 0, .int .i64 2, .int .i64 2, .string ⟨#[]⟩, .string ⟨#[]⟩, .int .i64 0, .int .i64 12, .int .i64 0, .int .i64 0, .string ⟨#[]⟩, .string ⟨#[]⟩, .int .i64 0] 77) := ⟨_, rfl⟩
  have hb1 : Below w.heap.size w W1 := by rw [hW1]; exact below_alloc
  have hq1 : In W1 (some ⟨w.heap.size, 0, none⟩) 3 3 shL := by rw [hW1]; exact shL_in w
  rw [← hW1]
  clear hW1
  have SG3 := hide hb1
  clear hb1
  have HQ := hide hq1
  clear hq1
  refine (columnsW_0 _).mono ?_
  rintro e w4 ⟨⟨rfl, hc1⟩, hb4⟩
  have SG5 := hide hb4
  clear hb4
  have HC1 := hide hc1
  clear hc1
  go_wp2_with fail
  refine (columnsW_0 _).mono ?_
  rintro e w6 ⟨⟨rfl, hc2⟩, hb6⟩
  have SG7 := hide hb6
  clear hb6
  have HC2 := hide hc2
  clear hc2
  go_wp2_with fail
  obtain ⟨W0, rfl⟩ : ∃ W, W = w6 := ⟨_, rfl⟩
  obtain ⟨W4, hW4⟩ : ∃ W, W = W0.alloc (.cells #[.slice A n c, .int .i64 0] 51) := ⟨_, rfl⟩
  have hb4 : Below W0.heap.size W0 W4 := by rw [hW4]; exact below_alloc
  have BC8 := hide (below_trans (below_trans SG3.out SG5.out) SG7.out)
  have hn4 : Num W4 W0.heap.size A n c l 0 := by rw [hW4]; exact Num.made W0 A n c l (HL.out.below BC8.out) (by omega)
  rw [← hW4]
  clear hW4
  have HOC := offLow HC2.out hb4 (Nat.le_refl _)
  have HB4 := hide hb4
  clear hb4
  refine (tabH_any W4 W0.heap.size A n c l 0 hn4 _ 3 3 shCols HOC sh_in.1 10 (by omega) (by omega)).mono ?_
  rintro e w5 ⟨⟨A5, c5, rows, j, rfl, hi5, hto, hnum⟩, hg5⟩
  have hb5 := below_of_grown HB4.out hg5 HB4.out.size (Nat.le_refl _)
  have hr5 := hi5.inn
  obtain ⟨m5, hm5⟩ : ∃ m, rows.length = m := ⟨_, rfl⟩
  rw [hm5] at hr5 ⊢
  have HLEN := hide hm5
  have HTO := hide hto
  clear hm5 hto hnum hi5 hg5 hn4 HOC HB4
  have SG9 := hide hb5
  clear hb5
  have HR := hide hr5
  clear hr5
  have HSUM := hide (sh_sums HTO.out)
  go_wp2_with fail
  obtain ⟨W6, hW6⟩ : ∃ W, W = w5.alloc (.cells #[.string ⟨#[]⟩, .slice (some ⟨W1.heap.size, 0, none⟩) 3 3, .slice none 0 0, .slice A5 m5 c5] 32) := ⟨_, rfl⟩
  obtain ⟨hbW6, SZW6, r0, r1, r2, r3⟩ := boxed4 hW6 rfl
  rw [← hW6]
  clear hW6
  have SG10 := hide hbW6
  clear hbW6
  have HBL := hide (below_trans (below_trans (below_trans (below_trans SG3.out SG5.out) SG7.out) SG9.out) SG10.out)
  have h5 := HR.out.le
  go_wp2
  go_loopg [11, 12, 13] m5 (fun left p q i wr => ∃ k : Nat, k + left = m5 ∧ p = .int .i64 (shPart (rows.take k)) ∧ q = .int .i64 (totC (rows.take k)) ∧ i = .int .i64 k ∧ Below W6.heap.size W6 wr)
  case atStart => exact ⟨0, by omega, rfl, rfl, rfl, Below.refl _ _⟩
  case round =>
    obtain ⟨k, hk, rfl, rfl, rfl, hb⟩ := hrel
    have o11 := all4 r0 r1 r2 r3
    have SG12 := hide hb
    clear hb
    have HLW := hide SG12.out
    by_cases hlt : k < m5
    · have BC13 := hide (below_trans SG10.out SG12.out)
      obtain ⟨b5, off, x, rfl, hBb, HX, Ax, nx, cx, e0, e1, e2, e3⟩ := (HR.out.below BC13.out).ent hlt
      have k0 : (0 : Int) ≤ (k : Int) := by omega
      have k1 : (k : Int) < (m5 : Int) := by omega
      obtain ⟨hs1, hs2⟩ := shPart_step HX.out
      obtain ⟨⟨p1, p2⟩, p3, p4⟩ := sh_part HTO.out k
      obtain ⟨⟨u1, u2⟩, u3, u4⟩ := sh_part HTO.out (k + 1)
      obtain ⟨P, hP⟩ : ∃ P, shPart (rows.take k) = P := ⟨_, rfl⟩
      obtain ⟨T, hT⟩ : ∃ T, totC (rows.take k) = T := ⟨_, rfl⟩
      rw [hP] at hs2 p1 p2 ⊢
      rw [hT] at hs1 p3 p4 ⊢
      rw [hs1] at u3 u4
      rw [hs2] at u1 u2
      obtain ⟨va, vb, vc, hrow, _⟩ := sh_row ((HTO.out.bag (by simp [shCols])).2.1 x (mem_of_drop HX.out))
      have hnx := e2.len
      rw [hrow] at hnx
      simp at hnx
      obtain ⟨bv, ov, v, rfl, hBv, HV, f0, f1, f2, vok⟩ := e2.val (k := 0) (by omega)
      have hv : x.row.getD 0 default = v := by have h := HV.out; rw [hrow] at h ⊢; simp at h ⊢; exact h
      rw [hv] at hs2 u1 u2
      simp only [Nat.zero_mul, Nat.add_zero] at f1
      have hn0 : (0 : Int) < (nx : Int) := by omega
      have w1 : IntKind.i64.wrap (T + x.count) = T + x.count := IntWalk.i64_in _ (by omega)
      have HS1 := hide hs1
      clear hs1 hrow hv hnx HV hP hT f0 f2 e2 e3 u3 u4
      by_cases hc : v.num < 2
      · rw [if_pos hc] at hs2 u1 u2
        have w2 : IntKind.i64.wrap (P + x.count) = P + x.count := IntWalk.i64_in _ (by omega)
        have HS2 := hide hs2
        clear hs2 u1 u2
        obtain ⟨r0, r1, r2, r3⟩ := o11.out _ SG12.out
        go_wp2
        all_goals (try (exfalso; go_light; simp_all; done))
        go_roundg (gk - 1)
        case measure => omega
        case rel => exact ⟨k + 1, by omega, by rw [HS2.out], by rw [HS1.out], by go_num, HLW.out⟩
      · rw [if_neg hc] at hs2 u1 u2
        have HS2 := hide (hs2.trans (by omega : P + 0 = P))
        clear hs2 u1 u2
        obtain ⟨r0, r1, r2, r3⟩ := o11.out _ SG12.out
        go_wp2
        all_goals (try (exfalso; go_light; simp_all; done))
        go_roundg (gk - 1)
        case measure => omega
        case rel => exact ⟨k + 1, by omega, by rw [HS2.out], by rw [HS1.out], by go_num, HLW.out⟩
    · have hkk : rows.take k = rows := List.take_of_length_le (by rw [HLEN.out]; omega)
      rw [hkk]
      obtain ⟨⟨⟨s1, s2, s3⟩, _⟩, HP⟩ : Hid ((0 ≤ shPart rows ∧ shPart rows ≤ totC rows ∧ totC rows ≤ 2000000) ∧ True) ∧ True := ⟨⟨HSUM.out.1, trivial⟩, trivial⟩
      have HJC := hide fun p q r s h W hq hw hc hr => sh_call HTO.out W p q r s h (some ⟨w.heap.size, 0, none⟩) hq hw (some ⟨W1.heap.size, 0, none⟩) hc A5 m5 c5 hr
      obtain ⟨P, hP⟩ : ∃ P, shPart rows = P := ⟨_, rfl⟩
      obtain ⟨T, hT⟩ : ∃ T, totC rows = T := ⟨_, rfl⟩
      rw [hP, hT] at HJC
      rw [hP, hT] at s2
      rw [hP] at s1 ⊢
      rw [hT] at s3 ⊢
      obtain ⟨pa, hpa⟩ : ∃ q, a % 4 = q := ⟨_, rfl⟩
      obtain ⟨pb, hpb⟩ : ∃ q, b % 9 = q := ⟨_, rfl⟩
      obtain ⟨pd, hpd⟩ : ∃ q, d % 5 = q := ⟨_, rfl⟩
      have HPA := hide hpa
      have HPB := hide hpb
      have HPD := hide hpd
      have ha : 0 ≤ pa ∧ pa < 4 := by omega
      have hb' : 0 ≤ pb ∧ pb < 9 := by omega
      have hd : 0 ≤ pd ∧ pd < 5 := by omega
      have wd : IntKind.i64.wrap (1 + pd) = 1 + pd := IntWalk.i64_in _ (by omega)
      have HAD := hide (And.intro ha (And.intro hb' hd))
      clear hP hT hpa hpb hpd ha hb' hd HP HSUM
      obtain ⟨r0, r1, r2, r3⟩ := o11.out _ SG12.out
      go_wp2_with fail
      refine (placeW_any a 4 (by omega) (by omega) _).mono ?_
      rintro e u1 ⟨rfl, hu⟩
      obtain rfl := hu.symm
      rw [HPA.out]
      go_wp2_with fail
      refine (placeW_any d 5 (by omega) (by omega) _).mono ?_
      rintro e u1 ⟨rfl, hu⟩
      obtain rfl := hu.symm
      rw [HPD.out]
      go_wp2_with fail
      refine (placeW_any b 9 (by omega) (by omega) _).mono ?_
      rintro e u1 ⟨rfl, hu⟩
      obtain rfl := hu.symm
      rw [HPB.out]
      go_wp2_with fail
      refine (placeW_any d 5 (by omega) (by omega) _).mono ?_
      rintro e u1 ⟨rfl, hu⟩
      obtain rfl := hu.symm
      rw [HPD.out]
      go_upto_region 13 with (fail)
      have BC14 := hide (below_trans (below_trans (below_trans (below_trans SG5.out SG7.out) SG9.out) SG10.out) SG12.out)
      have HQr := hide (HQ.out.below BC14.out)
      have BC15 := hide (below_trans (below_trans (below_trans (below_trans (below_trans SG3.out SG5.out) SG7.out) SG9.out) SG10.out) SG12.out)
      have HWr := hide (HW.out.below BC15.out)
      have BC16 := hide (below_trans (below_trans (below_trans SG7.out SG9.out) SG10.out) SG12.out)
      have HCr := hide (HC1.out.below BC16.out)
      have BC17 := hide (below_trans SG10.out SG12.out)
      have HRr := hide (HR.out.below BC17.out)
      have HRL := all4 r0 r1 r2 r3
      have HBr := hide (below_trans (below_trans (below_trans (below_trans (below_trans SG3.out SG5.out) SG7.out) SG9.out) SG10.out) SG12.out)
      obtain ⟨W8, hW8⟩ : ∃ W, W = wr.alloc (.cells #[.string ⟨#[99]⟩, .string ⟨#[]⟩, .int .i64 5, .slice none 0 0, .string ⟨#[]⟩, .slice none 0 0, .int .i64 0, .int .i64 0, .slice (some ⟨w.heap.size, 0, none⟩) 3 3, .int .i64 pa, .int .i64 (1 + pd), .int .i64 pb, .int .i64 (1 + pd), .int .i64 1] 27) := ⟨_, rfl⟩
      have kc8 : Blk W8 wr.heap.size 27 [.string ⟨#[99]⟩, .string ⟨#[]⟩, .int .i64 5, .slice none 0 0, .string ⟨#[]⟩, .slice none 0 0, .int .i64 0, .int .i64 0, .slice (some ⟨w.heap.size, 0, none⟩) 3 3, .int .i64 pa, .int .i64 (1 + pd), .int .i64 pb, .int .i64 (1 + pd), .int .i64 1] := by rw [hW8]; exact Blk.made _ _ _
      have hb8 : Below wr.heap.size wr W8 := by rw [hW8]; exact below_alloc
      have hs8 : W8.heap.size = wr.heap.size + 1 := by rw [hW8]; exact World.size_alloc _ _
      rw [← hW8]
      clear hW8
      have HS8 := hide hs8
      clear hs8
      have SG18 := hide hb8
      clear hb8
      have KC := hide kc8
      clear kc8
      obtain ⟨L8, g0, g1, g2, g3, g4, g5, g6, g7, g8, g9, g10, g11, g12, g13⟩ := KC.out.ats14
      have HR1 : Hid ((ratioOk pa (1 + pd) && ratioOk pb (1 + pd)) = true) := hide (by have := HAD.out; simp [ratioOk]; omega)
      have BC20 := hide (below_trans SG12.out SG18.out)
      obtain ⟨r0, r1, r2, r3⟩ := o11.out _ BC20.out
      go_wp2_with fail
      have BC21 := hide (below_trans (below_trans (below_trans (below_trans (below_trans (below_trans SG3.out SG5.out) SG7.out) SG9.out) SG10.out) SG12.out) SG18.out)
      have BC22 := hide (below_trans (below_trans (below_trans (below_trans (below_trans SG5.out SG7.out) SG9.out) SG10.out) SG12.out) SG18.out)
      have BC23 := hide (below_trans (below_trans (below_trans (below_trans SG7.out SG9.out) SG10.out) SG12.out) SG18.out)
      have BC24 := hide (below_trans (below_trans SG10.out SG12.out) SG18.out)
      refine (HJC.out pa (1 + pd) pb (1 + pd) HR1.out _ (HQ.out.below BC22.out) (HW.out.below BC21.out) (HC1.out.below BC23.out) (HR.out.below BC24.out)).mono ?_
      rintro e w19 ⟨rfl, hb19⟩
      have SG25 := hide hb19
      clear hb19
      clear L8 g0 g1 g2 g3 g4 g5 g6 g7 g8 g9 g10 g11 g12 g13
      obtain ⟨ha1, ha2⟩ := HAD.out.1
      obtain ⟨hb1, hb2⟩ := HAD.out.2.1
      obtain ⟨hd1, hd2⟩ := HAD.out.2.2
      obtain ⟨M1, hM1⟩ : ∃ q, P * (1 + pd) = q := ⟨_, rfl⟩
      obtain ⟨M2, hM2⟩ : ∃ q, pa * T = q := ⟨_, rfl⟩
      obtain ⟨M3, hM3⟩ : ∃ q, pb * T = q := ⟨_, rfl⟩
      have f1 : IntKind.i64.wrap (P * (1 + pd)) = M1 := by rw [← hM1]; exact mul_sm (by omega) (by omega) (by omega) (by omega)
      have f2 : IntKind.i64.wrap (pa * T) = M2 := by rw [← hM2, Int.mul_comm]; exact mul_sm (by omega) (by omega) (by omega) (by omega)
      have f3 : IntKind.i64.wrap (pb * T) = M3 := by rw [← hM3, Int.mul_comm]; exact mul_sm (by omega) (by omega) (by omega) (by omega)
      rw [hM1, hM2, hM3]
      clear hM1 hM2 hM3 ha1 ha2 hb1 hb2 hd1 hd2
      obtain ⟨bv, hbv⟩ : ∃ q, (!(T == 0 || (decide (M2 ≤ M1) && decide (M1 ≤ M3)))) = q := ⟨_, rfl⟩
      rw [hbv]
      have HBV := hide hbv
      clear hbv
      have BC26 := hide (below_trans (below_trans SG12.out SG18.out) SG25.out)
      obtain ⟨r0, r1, r2, r3⟩ := o11.out _ BC26.out
      go_upto_region 14 with (fail)
      obtain ⟨WV, rfl⟩ : ∃ W, W = w19 := ⟨_, rfl⟩
      have hlt9 : wr.heap.size < WV.heap.size := (KC.out.below SG25.out).lt
      have HL9 := hide hlt9
      clear hlt9
      obtain ⟨W9, hW9⟩ : ∃ W, W = WV.alloc (.cells #[.string ⟨#[99]⟩, .bool bv, .int .i64 0, .int .i64 P, .int .i64 T] 68) := ⟨_, rfl⟩
      have kv9 : Blk W9 WV.heap.size 68 [.string ⟨#[99]⟩, .bool bv, .int .i64 0, .int .i64 P, .int .i64 T] := by rw [hW9]; exact Blk.made _ _ _
      have hb9 : Below WV.heap.size WV W9 := by rw [hW9]; exact below_alloc
      rw [← hW9]
      clear hW9
      have KV := hide kv9
      clear kv9
      have SG27 := hide (below_trans SG25.out hb9)
      clear hb9
      obtain ⟨-, g0, g1, g2, g3, g4, g5, g6, g7, g8, g9, g10, g11, g12, g13⟩ := (KC.out.below SG27.out).ats14
      have y9 := (KC.out.below SG27.out).fz 9
      have y10 := (KC.out.below SG27.out).fz 10
      have y11 := (KC.out.below SG27.out).fz 11
      have y12 := (KC.out.below SG27.out).fz 12
      have BC28 := hide (below_trans (below_trans SG12.out SG18.out) SG27.out)
      obtain ⟨r0, r1, r2, r3⟩ := o11.out _ BC28.out
      go_cut [17] (fun v wx => v = .bool (!bv) ∧ wx = W9)
      case first =>
        obtain hc | ⟨hc, hd⟩ | ⟨hc, hd, he⟩ | ⟨hc, hd, he⟩ : T = 0 ∨ (¬ T = 0 ∧ ¬ M2 ≤ M1) ∨ (¬ T = 0 ∧ M2 ≤ M1 ∧ M1 ≤ M3) ∨ (¬ T = 0 ∧ M2 ≤ M1 ∧ ¬ M1 ≤ M3) := by omega
        · obtain rfl : false = bv := by rw [← HBV.out, hc]; simp
          go_wp2_with fail
          go_meet
          case rel => exact ⟨by simp [hc], rfl⟩
        · obtain rfl : true = bv := by rw [← HBV.out]; simp [hc, hd]
          go_wp2_with fail
          go_meet
          case rel => exact ⟨by simp [hc], rfl⟩
        · obtain rfl : false = bv := by rw [← HBV.out]; simp [hc, hd, he]
          go_wp2_with fail
          go_meet
          case rel => exact ⟨by simp [hc], rfl⟩
        · obtain rfl : true = bv := by rw [← HBV.out]; simp [hc, hd, he]
          go_wp2_with fail
          go_meet
          case rel => exact ⟨by simp [hc], rfl⟩
      case rest =>
        obtain ⟨rfl, hwx⟩ := hcut
        obtain rfl := hwx.symm
        go_upto_region 16 with (fail)
        obtain ⟨W10, hW10⟩ : ∃ W, W = ((((W9.setCell ⟨wr.heap.size, 9, none⟩ (.int .i64 0)).setCell ⟨wr.heap.size, 10, none⟩ (.int .i64 1)).setCell ⟨wr.heap.size, 11, none⟩ (.int .i64 1)).setCell ⟨wr.heap.size, 12, none⟩ (.int .i64 1)) := ⟨_, rfl⟩
        have kc10 : Blk W10 wr.heap.size 27 [.string ⟨#[99]⟩, .string ⟨#[]⟩, .int .i64 5, .slice none 0 0, .string ⟨#[]⟩, .slice none 0 0, .int .i64 0, .int .i64 0, .slice (some ⟨w.heap.size, 0, none⟩) 3 3, .int .i64 0, .int .i64 1, .int .i64 1, .int .i64 1, .int .i64 1] := by rw [hW10]; exact ((((KC.out.below SG27.out).set 9 _).set 10 _).set 11 _).set 12 _
        have hb10 : ∀ V : World, Below V.heap.size V W9 → V.heap.size ≤ wr.heap.size → Below V.heap.size V W10 := fun V h h' => by rw [hW10]; exact (((h.setCell h' _).setCell h' _).setCell h' _).setCell h' _
        rw [← hW10]
        have hbr := hb10 wr (below_trans SG18.out SG27.out) (Nat.le_refl _)
        have hbw := hb10 w (below_trans (below_trans (below_trans (below_trans (below_trans (below_trans (below_trans SG3.out SG5.out) SG7.out) SG9.out) SG10.out) SG12.out) SG18.out) SG27.out) HBr.out.size
        have hne := HL9.out
        have kv10 : Blk W10 WV.heap.size 68 [.string ⟨#[99]⟩, .bool bv, .int .i64 0, .int .i64 P, .int .i64 T] := by rw [hW10]; exact (((KV.out.far (by omega) 9 _).far (by omega) 10 _).far (by omega) 11 _).far (by omega) 12 _
        clear hW10 hb10 g0 g1 g2 g3 g4 g5 g6 g7 g8 g9 g10 g11 g12 g13 y9 y10 y11 y12
        obtain ⟨L8, g0, g1, g2, g3, g4, g5, g6, g7, g8, g9, g10, g11, g12, g13⟩ := kc10.ats14
        obtain ⟨r0, r1, r2, r3⟩ := HRL.out _ hbr
        have HBW := hide hbw
        have HKV := hide kv10
        have HQX := hide (HQr.out.below hbr)
        have HWX := hide (HWr.out.below hbr)
        have HCX := hide (HCr.out.below hbr)
        have HRX := hide (HRr.out.below hbr)
        clear kc10 kv10 hbr hbw HQr HWr HCr HRr
        go_wp2_with fail
        refine (HJC.out 0 1 1 1 rfl W10 HQX.out HWX.out HCX.out HRX.out).mono ?_
        rintro e w11 ⟨rfl, hb11⟩
        rw [show (!(T == 0 || (decide (0 * T ≤ P * 1) && decide (P * 1 ≤ 1 * T)))) = false by simp; omega]
        clear L8 g0 g1 g2 g3 g4 g5 g6 g7 g8 g9 g10 g11 g12 g13 r0 r1 r2 r3
        go_upto_region 17 with (fail)
        obtain ⟨W12, hW12⟩ : ∃ W, W = w11.alloc (.cells #[.string ⟨#[99]⟩, .bool false, .int .i64 0, .int .i64 P, .int .i64 T] 68) := ⟨_, rfl⟩
        have kv12 : Blk W12 w11.heap.size 68 [.string ⟨#[99]⟩, .bool false, .int .i64 0, .int .i64 P, .int .i64 T] := by rw [hW12]; exact Blk.made _ _ _
        have hb12 : Below w11.heap.size w11 W12 := by rw [hW12]; exact below_alloc
        rw [← hW12]
        clear hW12
        obtain ⟨x0, u0, u1, u2, u3, u4⟩ := (HKV.out.below (below_trans hb11 hb12)).ats5
        obtain ⟨x1, q0, q1, q2, q3, q4⟩ := kv12.ats5
        have HWY := hide (HWX.out.below (below_trans hb11 hb12))
        have HBY := hide (below_trans HBW.out (below_trans hb11 hb12))
        clear hb11 hb12 kv12
        go_wp2_with fail
        refine (known28_any _ HWY.out).mono ?_
        rintro e w13 ⟨rfl, hb13⟩
        have HBZ := hide (below_trans HBY.out hb13)
        clear hb13
        go_wp2
        go_ret
        exact ⟨rfl, HBZ.out⟩
end Go.Proofs.YtggejcekmehocaaGreatDoor
