/-
  bag.Size, check.total, exact.Within: the numbers that verdicts are made of.
-/
import Derived.Test.YtggejcekmehocaaGreatDoorGau
import Derived.Test.YtggejcekmehocaaGreatDoorGag
namespace Go.Proofs.YtggejcekmehocaaGreatDoor
open Go.RowKit
set_option linter.unusedSimpArgs false
set_option linter.unusedVariables false
theorem bag_bd {rows : List Ent} (h : bagErr rows = 0) : rows.length ≤ 4096 ∧ ∀ x ∈ rows, -65536 ≤ x.count ∧ x.count ≤ 65536 := by
  have hl : rows.length ≤ 4096 := by
    rw [bagErr] at h
    by_cases q : 4096 < rows.length
    · rw [if_pos q] at h; omega
    · omega
  refine ⟨hl, fun x hx => ?_⟩
  rw [bagErr, if_neg (by omega)] at h
  obtain ⟨j, hj⟩ := List.mem_iff_getElem?.1 hx
  have h1 := firstErr_zero_all h j x hj
  rw [bagErr1] at h1
  have h2 : entErr x = 0 := by
    by_cases q : entErr x = 0
    · exact q
    · rw [if_pos q] at h1; exact absurd h1 q
  rw [entErr] at h2
  by_cases q : 12 < x.row.length ∨ x.count < -65536 ∨ 65536 < x.count
  · rw [if_pos q] at h2; omega
  · omega
theorem totC_abs {l : List Ent} {C : Int} (h : ∀ x ∈ l, -C ≤ x.count ∧ x.count ≤ C) : -(C * (l.length : Int)) ≤ totC l ∧ totC l ≤ C * (l.length : Int) := by
  induction l with
  | nil => simp [totC]
  | cons x l ih =>
    have h1 := h x (by simp)
    have h2 := ih fun y hy => h y (by simp [hy])
    rw [totC, List.length_cons, show C * ((l.length + 1 : Nat) : Int) = C * (l.length : Int) + C by rw [Int.natCast_succ, Int.mul_add, Int.mul_one]]
    omega
def colSum (at_ : Nat) : List Ent → Int
  | [] => 0
  | x :: l => (x.row.getD at_ zeroV).num * x.count + colSum at_ l
theorem colSum_app (k : Nat) (l m : List Ent) : colSum k (l ++ m) = colSum k l + colSum k m := by
  induction l with
  | nil => simp [colSum]
  | cons x l ih => rw [List.cons_append, colSum, colSum, ih]; omega
theorem mulC_bd {a c : Int} (h1 : -1073741824 ≤ a) (h2 : a ≤ 1073741824) (h3 : 0 < c) (h4 : c ≤ 65536) : -70368744177664 ≤ a * c ∧ a * c ≤ 70368744177664 := by
  have i1 : a * c ≤ 1073741824 * c := Int.mul_le_mul_of_nonneg_right h2 (by omega)
  have i2 : -1073741824 * c ≤ a * c := Int.mul_le_mul_of_nonneg_right h1 (by omega)
  omega
theorem colSum_abs {k : Nat} {l : List Ent} (h : ∀ x ∈ l, 0 < x.count ∧ x.count ≤ 65536) (hv : ∀ x ∈ l, -1073741824 ≤ (x.row.getD k zeroV).num ∧ (x.row.getD k zeroV).num ≤ 1073741824) :
    -(70368744177664 * (l.length : Int)) ≤ colSum k l ∧ colSum k l ≤ 70368744177664 * (l.length : Int) := by
  induction l with
  | nil => simp [colSum]
  | cons x l ih =>
    have h1 := h x (by simp)
    have h2 := hv x (by simp)
    have h3 := ih (fun y hy => h y (by simp [hy])) (fun y hy => hv y (by simp [hy]))
    have h4 := mulC_bd h2.1 h2.2 h1.1 h1.2
    rw [colSum, List.length_cons]
    omega
theorem validC_num {v : Val} (h : valid v = true) : -1073741824 ≤ v.num ∧ v.num ≤ 1073741824 := by
  rcases valid_cases h with h | h | h | h | h <;> omega
set_option maxHeartbeats 2000000 in
set_option maxRecDepth 100000 in
theorem total_any (w : World) (rn : ByteArray) (A1 : Option Addr) (n1 c1 : Nat) (cols : List Col) (hc : In w A1 n1 c1 cols) (Ak : Option Addr) (nk ck : Nat) (A3 : Option Addr) (n3 c3 : Nat) (rows : List Ent) (hr : In w A3 n3 c3 rows) (nm : ByteArray)
    (at_ : Nat) (hat : index cols nm = (at_ : Int)) (hlt_ : at_ < cols.length) (hT : tabErr cols rows = 0) :
    Calls Tryz.prog 66 #[.agg #[.string rn, .slice A1 n1 c1, .slice Ak nk ck, .slice A3 n3 c3], .string nm] w fun e w' => e = .returned (.int .i64 (colSum at_ rows)) ∧ Below w.heap.size w w' := by
  obtain ⟨hbz, htz, hrz⟩ := tabErr_zero hT
  obtain ⟨hrl, hrc⟩ := bag_zero hbz htz
  have HRC := hide hrc
  have HRZ := hide hrz
  have HLN := hide hr.len
  have HAT := hide hat
  have HALT := hide hlt_
  have h63 := hr.le
  have hn3 : n3 ≤ 4096 := by rw [← hr.len]; exact hrl
  have HVB : Hid (∀ x ∈ rows, -1073741824 ≤ (x.row.getD at_ zeroV).num ∧ (x.row.getD at_ zeroV).num ≤ 1073741824) := hide fun x hx => by
    have h1 := rowErr_len (hrz x hx)
    have h2 : at_ < x.row.length := by omega
    rw [List.getD_eq_getElem?_getD, List.getElem?_eq_getElem h2]
    exact validC_num (fit_valid (hrz x hx) (List.getElem?_eq_getElem h2))
  clear hbz htz hrz hrl hrc hT hat hlt_
  go_enter Tryz.func66, Tryz.ntmps66
  have HC := hide hc
  clear hc
  have HR := hide hr
  clear hr
  go_wp2_with fail
  obtain ⟨W1, hW1⟩ : ∃ W, W = w.alloc (.cells #[.string rn, .slice A1 n1 c1, .slice Ak nk ck, .slice A3 n3 c3] 32) := ⟨_, rfl⟩
  obtain ⟨hbW1, SZW1, g0, g1, g2, g3⟩ := boxed4 hW1 rfl
  rw [← hW1]
  clear hW1
  have HC := hide (HC.out.below hbW1)
  have HR := hide (HR.out.below hbW1)
  have SG4 := hide hbW1
  clear hbW1
  have LR := lt_of_cell g0
  go_wp2_with fail
  refine (index_any _ A1 n1 c1 cols HC.out nm).mono ?_
  rintro e w5 ⟨rfl, hb5⟩
  have HR := hide (HR.out.below hb5)
  obtain ⟨g0, g1, g2, g3, LR⟩ := bats4 hb5 LR g0 g1 g2 g3
  have SG6 := hide (below_trans SG4.out hb5)
  clear hb5
  rw [HAT.out]
  obtain ⟨W3, rfl⟩ : ∃ W, W = w5 := ⟨_, rfl⟩
  go_wp2
  go_loopw [6, 16] (fun s i wr => ∃ k : Nat, k ≤ n3 ∧ i = .int .i64 k ∧ s = .int .i64 (colSum at_ (rows.take k)) ∧ Below W3.heap.size W3 wr) (fun _ i _ => n3 - (RowKit.intOf i).toNat)
  case atStart => exact ⟨0, Nat.zero_le _, rfl, by simp [colSum], Below.refl _ _⟩
  case round =>
    obtain ⟨k, hk, rfl, rfl, hb⟩ := hrel
    have HR := hide (HR.out.below hb)
    obtain ⟨g0, g1, g2, g3, LR⟩ := bats4 hb LR g0 g1 g2 g3
    have SG7 := hide hb
    clear hb
    have HLW := hide SG7.out
    have HBW := hide (below_trans SG6.out SG7.out)
    by_cases hlt : k < n3
    · obtain ⟨b, off, x, rfl, hBb, HX1, Ax, An, Ac, e0, e1, e2, e3⟩ := HR.out.ent hlt
      have hxm := mem_of_drop HX1.out
      have hal : at_ < An := by have h1 := rowErr_len (HRZ.out x hxm); have h2 := e2.len; have h3 := HALT.out; omega
      obtain ⟨bv, ov, v, rfl, hBv, HV, v0, v1, v2, vok⟩ := e2.val hal
      have HVN : Hid ((x.row.getD at_ zeroV).num = v.num) := hide (by rw [getD_dr HV.out])
      have HN : Hid (colSum at_ (rows.take (k + 1)) = colSum at_ (rows.take k) + v.num * x.count) := hide (by rw [take_snoc HX1.out, colSum_app, ← HVN.out]; simp [colSum])
      have hbd := colSum_abs (k := at_) (l := rows.take k) (fun y hy => HRC.out y (List.mem_of_mem_take hy)) (fun y hy => HVB.out y (List.mem_of_mem_take hy))
      have hlk : (rows.take k).length ≤ 4096 := by rw [List.length_take]; omega
      have hxc := HRC.out x hxm
      have hvb := HVB.out x hxm
      rw [HVN.out] at hvb
      have hm := mulC_bd hvb.1 hvb.2 hxc.1 hxc.2
      obtain ⟨F, hF⟩ : ∃ F, colSum at_ (rows.take k) = F := ⟨_, rfl⟩
      rw [hF] at hbd HN ⊢
      clear hF
      obtain ⟨vn, hvn⟩ : ∃ q, v.num = q := ⟨_, rfl⟩
      rw [hvn] at v1 HN hvb hm
      have hwm : IntKind.i64.wrap (vn * x.count) = vn * x.count := IntWalk.i64_in _ (by omega)
      have hwr : IntKind.i64.wrap (F + vn * x.count) = F + vn * x.count := IntWalk.i64_in _ (by omega)
      have HLA := hide (below_trans HLW.out (below_alloc (o := .cells #[.slice (some ⟨bv, ov, none⟩) An Ac, .int .i64 x.count] 61)))
      have a0 : (0 : Int) ≤ (at_ : Int) := by omega
      have a1 : (at_ : Int) < (An : Int) := by omega
      have w1 : (wr.alloc (.cells #[.slice (some ⟨bv, ov, none⟩) An Ac, .int .i64 x.count] 61)).cell? ⟨bv, ov + at_ * 3 + 1, none⟩ = some (.int .i64 vn) := bat below_alloc hBv v1
      clear hbd hlk hxc hvb hm e2 v0 v2 hvn HVN
      go_wp2
      go_quiet (fail)
      go_wp2
      go_roundw
      case rel => exact ⟨k + 1, by omega, by go_num, by rw [HN.out], below_drewN HLA.out _⟩
      case measure => simp [RowKit.intOf]; omega
    · have HT : Hid (rows.take k = rows) := hide (List.take_of_length_le (by rw [HLN.out]; omega))
      rw [HT.out]
      go_wp2
      go_ret
      exact ⟨rfl, HBW.out⟩
def withinB (p w n d m e : Int) : Bool := !(decide (p < 0) || decide (w < p) || decide (1073741824 < w) || !formedB n d || !formedB m e) && (w == 0 || (decide (n * w ≤ p * d) && decide (p * e ≤ m * w)))
theorem within_ways (p w n d m e : Int) : (decide (p < 0) = true ∧ withinB p w n d m e = false) ∨ (decide (p < 0) = false ∧ decide (w < p) = true ∧ withinB p w n d m e = false) ∨ (decide (p < 0) = false ∧ decide (w < p) = false ∧ decide (1073741824 < w) = true ∧ withinB p w n d m e = false)
    ∨ (decide (p < 0) = false ∧ decide (w < p) = false ∧ decide (1073741824 < w) = false ∧ Hid (0 ≤ p ∧ p ≤ w ∧ w ≤ 1073741824) ∧ Hid (withinB p w n d m e = (formedB n d && (formedB m e && (w == 0 || (decide (n * w ≤ p * d) && decide (p * e ≤ m * w))))))) := by
  by_cases a1 : p < 0
  · exact .inl ⟨by simpa using a1, by simp [withinB, a1]⟩
  by_cases a2 : w < p
  · exact .inr (.inl ⟨by simpa using a1, by simpa using a2, by simp [withinB, a2]⟩)
  by_cases a3 : 1073741824 < w
  · exact .inr (.inr (.inl ⟨by simpa using a1, by simpa using a2, by simpa using a3, by simp [withinB, a3]⟩))
  · refine .inr (.inr (.inr ⟨by simpa using a1, by simpa using a2, by simpa using a3, hide (by omega), hide ?_⟩))
    rw [withinB, decide_eq_false a1, decide_eq_false a2, decide_eq_false a3]
    cases formedB n d <;> cases formedB m e <;> simp
theorem mulW_bd {a b : Int} (h1 : -1073741824 ≤ a) (h2 : a ≤ 1073741824) (h3 : 0 ≤ b) (h4 : b ≤ 1073741824) : -1152921504606846976 ≤ a * b ∧ a * b ≤ 1152921504606846976 := by
  have i1 : a * b ≤ 1073741824 * b := Int.mul_le_mul_of_nonneg_right h2 h3
  have i2 : -1073741824 * b ≤ a * b := Int.mul_le_mul_of_nonneg_right h1 h3
  omega
set_option maxHeartbeats 4000000 in
set_option maxRecDepth 100000 in
theorem withinX_any (U0 : World) (p w n d m e : Int) :
    Calls Tryz.prog 65 #[.int .i64 p, .int .i64 w, .agg #[.int .i64 n, .int .i64 d], .agg #[.int .i64 m, .int .i64 e]] U0 fun r w' => r = .returned (.bool (withinB p w n d m e)) ∧ Below U0.heap.size U0 w' := by
  have hA := within_ways p w n d m e
  have HF1 := hide fun W => formedX_any W n d
  have HF2 := hide fun W => formedX_any W m e
  have HG1 := hide (fun h => formedB_of (n := n) (d := d) h)
  have HG2 := hide (fun h => formedB_of (n := m) (d := e) h)
  obtain ⟨R, hR⟩ : ∃ R, withinB p w n d m e = R := ⟨_, rfl⟩
  obtain ⟨F1, hF1⟩ : ∃ R, formedB n d = R := ⟨_, rfl⟩
  obtain ⟨F2, hF2⟩ : ∃ R, formedB m e = R := ⟨_, rfl⟩
  rw [hR, hF1, hF2] at hA
  rw [hF1] at HF1 HG1
  rw [hF2] at HF2 HG2
  rw [hR]
  clear hR hF1 hF2
  rcases hA with ⟨a1, rfl⟩ | ⟨a1, a2, rfl⟩ | ⟨a1, a2, a3, rfl⟩ | ⟨a1, a2, a3, HB, HR⟩
  · go_enter Tryz.func65, Tryz.ntmps65
    go_wp2_with fail
    obtain ⟨W1, hW1⟩ : ∃ W, W = U0.alloc (.cells #[.int .i64 n, .int .i64 d] 25) := ⟨_, rfl⟩
    obtain ⟨hbW1, SZW1, g0, g1⟩ := boxed2 hW1 rfl
    rw [← hW1]
    clear hW1
    have SG8 := hide hbW1
    clear hbW1
    have L1 := lt_of_cell g0
    obtain ⟨W2, hW2⟩ : ∃ W, W = W1.alloc (.cells #[.int .i64 m, .int .i64 e] 25) := ⟨_, rfl⟩
    obtain ⟨hbW2, SZW2, h0, h1⟩ := boxed2 (b := U0.heap.size + 1) hW2 (by rw [SZW1.out])
    rw [← hW2]
    clear hW2
    obtain ⟨g0, g1, L1⟩ := bats2 hbW2 L1 g0 g1
    have SG9 := hide (below_trans SG8.out hbW2)
    clear hbW2
    have L2 := lt_of_cell h0
    go_wp2
    all_goals (try (exfalso; go_light; simp_all; done))
    go_ret
    exact ⟨rfl, SG9.out⟩
  · go_enter Tryz.func65, Tryz.ntmps65
    go_wp2_with fail
    obtain ⟨W1, hW1⟩ : ∃ W, W = U0.alloc (.cells #[.int .i64 n, .int .i64 d] 25) := ⟨_, rfl⟩
    obtain ⟨hbW1, SZW1, g0, g1⟩ := boxed2 hW1 rfl
    rw [← hW1]
    clear hW1
    have SG10 := hide hbW1
    clear hbW1
    have L1 := lt_of_cell g0
    obtain ⟨W2, hW2⟩ : ∃ W, W = W1.alloc (.cells #[.int .i64 m, .int .i64 e] 25) := ⟨_, rfl⟩
    obtain ⟨hbW2, SZW2, h0, h1⟩ := boxed2 (b := U0.heap.size + 1) hW2 (by rw [SZW1.out])
    rw [← hW2]
    clear hW2
    obtain ⟨g0, g1, L1⟩ := bats2 hbW2 L1 g0 g1
    have SG11 := hide (below_trans SG10.out hbW2)
    clear hbW2
    have L2 := lt_of_cell h0
    go_wp2
    all_goals (try (exfalso; go_light; simp_all; done))
    go_ret
    exact ⟨rfl, SG11.out⟩
  · go_enter Tryz.func65, Tryz.ntmps65
    go_wp2_with fail
    obtain ⟨W1, hW1⟩ : ∃ W, W = U0.alloc (.cells #[.int .i64 n, .int .i64 d] 25) := ⟨_, rfl⟩
    obtain ⟨hbW1, SZW1, g0, g1⟩ := boxed2 hW1 rfl
    rw [← hW1]
    clear hW1
    have SG12 := hide hbW1
    clear hbW1
    have L1 := lt_of_cell g0
    obtain ⟨W2, hW2⟩ : ∃ W, W = W1.alloc (.cells #[.int .i64 m, .int .i64 e] 25) := ⟨_, rfl⟩
    obtain ⟨hbW2, SZW2, h0, h1⟩ := boxed2 (b := U0.heap.size + 1) hW2 (by rw [SZW1.out])
    rw [← hW2]
    clear hW2
    obtain ⟨g0, g1, L1⟩ := bats2 hbW2 L1 g0 g1
    have SG13 := hide (below_trans SG12.out hbW2)
    clear hbW2
    have L2 := lt_of_cell h0
    go_wp2
    all_goals (try (exfalso; go_light; simp_all; done))
    go_ret
    exact ⟨rfl, SG13.out⟩
  · go_enter Tryz.func65, Tryz.ntmps65
    go_wp2_with fail
    obtain ⟨W1, hW1⟩ : ∃ W, W = U0.alloc (.cells #[.int .i64 n, .int .i64 d] 25) := ⟨_, rfl⟩
    obtain ⟨hbW1, SZW1, g0, g1⟩ := boxed2 hW1 rfl
    rw [← hW1]
    clear hW1
    have SG14 := hide hbW1
    clear hbW1
    have L1 := lt_of_cell g0
    obtain ⟨W2, hW2⟩ : ∃ W, W = W1.alloc (.cells #[.int .i64 m, .int .i64 e] 25) := ⟨_, rfl⟩
    obtain ⟨hbW2, SZW2, h0, h1⟩ := boxed2 (b := U0.heap.size + 1) hW2 (by rw [SZW1.out])
    rw [← hW2]
    clear hW2
    obtain ⟨g0, g1, L1⟩ := bats2 hbW2 L1 g0 g1
    have SG15 := hide (below_trans SG14.out hbW2)
    clear hbW2
    have L2 := lt_of_cell h0
    go_wp2_with fail
    refine (HF1.out _).mono ?_
    rintro e w16 ⟨rfl, hb16⟩
    obtain ⟨g0, g1, L1⟩ := bats2 hb16 L1 g0 g1
    obtain ⟨h0, h1, L2⟩ := bats2 hb16 L2 h0 h1
    have SG17 := hide (below_trans SG15.out hb16)
    clear hb16
    cases F1
    · obtain rfl : R = false := by rw [HR.out]; rfl
      go_wp2
      all_goals (try (exfalso; go_light; simp_all; done))
      go_ret
      exact ⟨rfl, SG17.out⟩
    go_wp2_with fail
    refine (HF2.out _).mono ?_
    rintro e w18 ⟨rfl, hb18⟩
    obtain ⟨g0, g1, L1⟩ := bats2 hb18 L1 g0 g1
    obtain ⟨h0, h1, L2⟩ := bats2 hb18 L2 h0 h1
    have SG19 := hide (below_trans SG17.out hb18)
    clear hb18
    cases F2
    · obtain rfl : R = false := by rw [HR.out]; rfl
      go_wp2
      all_goals (try (exfalso; go_light; simp_all; done))
      go_ret
      exact ⟨rfl, SG19.out⟩
    by_cases hw0 : w = 0
    · subst hw0
      obtain rfl : R = true := by rw [HR.out]; rfl
      go_wp2
      all_goals (try (exfalso; go_light; simp_all; done))
      go_ret
      exact ⟨rfl, SG19.out⟩
    have HW0 := hide hw0
    have q0 : (w == 0) = false := by simpa using hw0
    have hb := HB.out
    have hg1 := HG1.out (by first | rfl | trivial)
    have hg2 := HG2.out (by first | rfl | trivial)
    have m1 := mulW_bd hg1.1.1 hg1.1.2 (b := w) (by omega) (by omega)
    have m2 := mulW_bd hg2.1.1 hg2.1.2 (b := w) (by omega) (by omega)
    have m3 := mulW_bd (a := p) (b := d) (by omega) (by omega) (by omega) hg1.2.2
    have m4 := mulW_bd (a := p) (b := e) (by omega) (by omega) (by omega) hg2.2.2
    have w1 : IntKind.i64.wrap (n * w) = n * w := IntWalk.i64_in _ (by omega)
    have w2 : IntKind.i64.wrap (m * w) = m * w := IntWalk.i64_in _ (by omega)
    have w3 : IntKind.i64.wrap (p * d) = p * d := IntWalk.i64_in _ (by omega)
    have w4 : IntKind.i64.wrap (p * e) = p * e := IntWalk.i64_in _ (by omega)
    have HRR : Hid (R = (decide (n * w ≤ p * d) && decide (p * e ≤ m * w))) := hide (by rw [HR.out, q0]; simp)
    clear hb hg1 hg2 m1 m2 m3 m4 hw0
    by_cases c1 : n * w ≤ p * d
    · have c2 : decide (n * w ≤ p * d) = true := by simpa using c1
      go_wp2
      all_goals (try (exfalso; go_light; simp_all; done))
      go_ret
      exact ⟨ret_bool (by rw [HRR.out, c2]; simp), SG19.out⟩
    · have c2 : decide (n * w ≤ p * d) = false := by simpa using c1
      go_wp2
      all_goals (try (exfalso; go_light; simp_all; done))
      go_ret
      exact ⟨ret_bool (by rw [HRR.out, c2]; simp), SG19.out⟩
end Go.Proofs.YtggejcekmehocaaGreatDoor
