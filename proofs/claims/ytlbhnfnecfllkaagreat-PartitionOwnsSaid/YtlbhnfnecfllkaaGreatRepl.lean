/-
  partition.Replace, warehouseref22.Replace.
-/
import Derived.Test.YtlbhnfnecfllkaaGreatPik
import Derived.Test.YtlbhnfnecfllkaaGreatGah
import Derived.Test.YtlbhnfnecfllkaaGreatGac
namespace Go.Proofs.YtlbhnfnecfllkaaGreat
open Go.RowKit
set_option linter.unusedSimpArgs false
set_option linter.unusedVariables false

theorem replS_e1 {cols : List Col} {col : ByteArray} {z : Zone} {rows part : List Ent} {d : Int} (h : schemeErr cols col z rows ≠ 0) : replS cols col z rows d part = (schemeErr cols col z rows, []) := by rw [replS, if_pos h]
theorem replS_e2 {cols : List Col} {col : ByteArray} {z : Zone} {rows part : List Ent} {d : Int} (h : schemeErr cols col z rows = 0) (h2 : schemeErr cols col z part ≠ 0) : replS cols col z rows d part = (schemeErr cols col z part, []) := by rw [replS, if_neg (by simpa using h), if_pos h2]
theorem replS_bad {cols : List Col} {col : ByteArray} {z : Zone} {rows part : List Ent} {d : Int} (h : schemeErr cols col z rows = 0) (h2 : schemeErr cols col z part = 0) (h3 : ∃ x ∈ part, dayRow (findS cols col z).1 z x.row ≠ d) : replS cols col z rows d part = (8, []) := by
  rw [replS, if_neg (by simpa using h), if_neg (by simpa using h2), if_pos]
  obtain ⟨x, hx, h⟩ := h3
  simp only [List.any_eq_true]
  exact ⟨x, hx, by simpa using h⟩
theorem replS_bag {cols : List Col} {col : ByteArray} {z : Zone} {rows part : List Ent} {d : Int} (h : schemeErr cols col z rows = 0) (h2 : schemeErr cols col z part = 0) (h3 : ∀ x ∈ part, dayRow (findS cols col z).1 z x.row = d) : replS cols col z rows d part = bagS (restR (findS cols col z).1 z rows d ++ part) := by
  rw [replS, if_neg (by simpa using h), if_neg (by simpa using h2), if_neg]
  simp only [List.any_eq_true, not_exists, not_and]
  exact fun x hx => by simpa using h3 x hx
theorem bagErr_rest {at_ : Int} {z : Zone} {rows : List Ent} {d : Int} (h : bagErr rows = 0) : bagErr (restR at_ z rows d) = 0 := bagErr_filter h _
theorem replS_add {cols : List Col} {col : ByteArray} {z : Zone} {rows part : List Ent} {d : Int} (h : schemeErr cols col z rows = 0) (h2 : schemeErr cols col z part = 0) (h3 : ∀ x ∈ part, dayRow (findS cols col z).1 z x.row = d) : replS cols col z rows d part = addS (restR (findS cols col z).1 z rows d) part := by
  rw [replS_bag h h2 h3, addS, if_neg (by simpa using bagErr_rest (scheme_ok h).2.1), if_neg (by simpa using (scheme_ok h2).2.1)]
theorem replS_norm {cols : List Col} {col : ByteArray} {z : Zone} {rows part : List Ent} {d : Int} (h : schemeErr cols col z rows = 0) (h2 : schemeErr cols col z part = 0) (h3 : ∀ x ∈ part, dayRow (findS cols col z).1 z x.row = d) : replS cols col z rows d part = normS (restR (findS cols col z).1 z rows d ++ part) := by
  rw [replS_add h h2 h3, addS_norm (bagErr_rest (scheme_ok h).2.1) (scheme_ok h2).2.1]
theorem normed_S {xs : List Ent} {m : Int} {zs : List Ent} (h : Normed xs m zs) : normS xs = (m, zs) := by
  rw [normS]
  rcases h with ⟨h1, rfl, rfl⟩ | ⟨h1, h2⟩
  · rw [if_pos h1]
  · rw [if_neg (by simpa using h1), bagS]
    rcases h2 with ⟨rfl, h, rfl⟩ | ⟨rfl, h, rfl⟩
    · rw [if_pos h]
    · rw [if_neg (by rw [h]; simp)]
theorem take_ne {xs : List Ent} {k : Nat} {x : Ent} {l : List Ent} (h : xs.drop k = x :: l) {p : Ent → Bool} : (xs.take (k + 1)).filter p = (xs.take k).filter p ++ (if p x then [x] else []) := filter_snoc h
set_option maxHeartbeats 8000000 in
set_option maxRecDepth 100000 in
theorem replP_any (w : World) (A1 : Option Addr) (n1 c1 : Nat) (cols : List Col) (hc : In w A1 n1 c1 cols) (col : ByteArray) (A : Option Addr) (n c : Nat) (z : Zone) (hx : In w A n c z.shifts) (ho : I64 z.offset) (A2 : Option Addr) (n2 c2 : Nat) (rows : List Ent) (hr : In w A2 n2 c2 rows) (d : Int) (A3 : Option Addr) (n3 c3 : Nat) (part : List Ent) (hp : In w A3 n3 c3 part) :
    Calls Tryz.prog 20 #[.slice A1 n1 c1, .string col, .agg #[.string z.name, .int .i64 z.offset, .slice A n c], .slice A2 n2 c2, .agg #[.int .i64 d, .slice A3 n3 c3]] w
      fun e w' => (∃ v, e = .returned (.tuple #[v, .int .i64 (replS cols col z rows d part).1]) ∧ OE w.heap.size w' v (replS cols col z rows d part).2) ∧ Below w.heap.size w w' := by
  have HF1 := hide (scheme_fit (cols := cols) (col := col) (z := z) (rows := rows))
  have HF2 := hide (scheme_fit (cols := cols) (col := col) (z := z) (rows := part))
  have HR1 := hide (replS_e1 (cols := cols) (col := col) (z := z) (rows := rows) (d := d) (part := part))
  have HR2 := hide (replS_e2 (cols := cols) (col := col) (z := z) (rows := rows) (d := d) (part := part))
  have HR3 := hide (replS_bad (cols := cols) (col := col) (z := z) (rows := rows) (d := d) (part := part))
  have HR4 := hide (replS_add (cols := cols) (col := col) (z := z) (rows := rows) (d := d) (part := part))
  obtain ⟨R, hR⟩ : ∃ R, replS cols col z rows d part = R := ⟨_, rfl⟩
  rw [hR] at HR1 HR2 HR3 HR4 ⊢
  obtain ⟨E, hE⟩ : ∃ E, schemeErr cols col z rows = E := ⟨_, rfl⟩
  have HE := hide hE
  obtain ⟨E2, hE2⟩ : ∃ E, schemeErr cols col z part = E := ⟨_, rfl⟩
  have HE2 := hide hE2
  rw [hE] at HR1 HR2 HR3 HR4
  rw [hE2] at HR2 HR3 HR4
  clear hE hR hE2
  obtain ⟨at_, hat⟩ : ∃ at_, (findS cols col z).1 = at_ := ⟨_, rfl⟩
  have HAT := hide hat
  rw [hat] at HF1 HF2 HR3 HR4
  clear hat
  have hn2 := hr.len
  have hn3 := hp.len
  have h63 := hp.le
  have h64 := hr.le
  go_enter Tryz.func20, Tryz.ntmps20
  go_upto_region 1 with (fail)
  have HC := hide hc
  clear hc
  have HZ := hide hx
  clear hx
  have HR := hide hr
  clear hr
  have HP := hide hp
  clear hp
  obtain ⟨W1, hW1⟩ : ∃ W, W = w.alloc (.cells #[.string z.name, .int .i64 z.offset, .slice A n c] 25) := ⟨_, rfl⟩
  have g0 : W1.cell? ⟨w.heap.size, 0, none⟩ = some (.string z.name) := by rw [hW1]; simp [go_sem]
  have g1 : W1.cell? ⟨w.heap.size, 1, none⟩ = some (.int .i64 z.offset) := by rw [hW1]; simp [go_sem]
  have g2 : W1.cell? ⟨w.heap.size, 2, none⟩ = some (.slice A n c) := by rw [hW1]; simp [go_sem]
  have hbW1 : Below w.heap.size w W1 := by rw [hW1]; exact below_alloc
  have SZW1 : Hid (W1.heap.size = w.heap.size + 1) := hide (by rw [hW1]; exact World.size_alloc _ _)
  rw [← hW1]
  clear hW1
  have HC := hide (HC.out.below hbW1)
  have HZ := hide (HZ.out.below hbW1)
  have HR := hide (HR.out.below hbW1)
  have HP := hide (HP.out.below hbW1)
  have LST1 := hide hbW1
  have SG1 := hide hbW1
  clear hbW1
  have LZ := lt_of_cell g0
  obtain ⟨W2, hW2⟩ : ∃ W, W = W1.alloc (.cells #[.int .i64 d, .slice A3 n3 c3] 44) := ⟨_, rfl⟩
  have p0 : W2.cell? ⟨w.heap.size + 1, 0, none⟩ = some (.int .i64 d) := by rw [← SZW1.out, hW2]; simp [go_sem]
  have p1 : W2.cell? ⟨w.heap.size + 1, 1, none⟩ = some (.slice A3 n3 c3) := by rw [← SZW1.out, hW2]; simp [go_sem]
  have hbW2 : Below W1.heap.size W1 W2 := by rw [hW2]; exact below_alloc
  have SZW2 : Hid (W2.heap.size = W1.heap.size + 1) := hide (by rw [hW2]; exact World.size_alloc _ _)
  rw [← hW2]
  clear hW2
  have HC := hide (HC.out.below hbW2)
  have HZ := hide (HZ.out.below hbW2)
  have HR := hide (HR.out.below hbW2)
  have HP := hide (HP.out.below hbW2)
  have g0 := bat hbW2 LZ g0
  have g1 := bat hbW2 LZ g1
  have g2 := bat hbW2 LZ g2
  have LZ := lt_of_cell g0
  have LST2 := hide hbW2
  have SG2 := hide (below_trans SG1.out hbW2)
  clear hbW2
  have LP := lt_of_cell p0
  go_wp2_with fail
  refine (checkP_any _ _ _ _ cols HC.out col A n c z HZ.out ho _ _ _ rows HR.out).mono ?_
  rintro e w3 ⟨rfl, hb3⟩
  have HC := hide (HC.out.below hb3)
  have HZ := hide (HZ.out.below hb3)
  have HR := hide (HR.out.below hb3)
  have HP := hide (HP.out.below hb3)
  have g0 := bat hb3 LZ g0
  have g1 := bat hb3 LZ g1
  have g2 := bat hb3 LZ g2
  have LZ := lt_of_cell g0
  have p0 := bat hb3 LP p0
  have p1 := bat hb3 LP p1
  have LP := lt_of_cell p0
  have LST4 := hide hb3
  have SG4 := hide (below_trans SG2.out hb3)
  clear hb3
  rw [HE.out, HAT.out]
  by_cases h0 : E = 0
  · subst h0
    go_wp2_with fail
    refine (checkP_any _ _ _ _ cols HC.out col A n c z HZ.out ho _ _ _ part HP.out).mono ?_
    rintro e w5 ⟨rfl, hb5⟩
    have HC := hide (HC.out.below hb5)
    have HZ := hide (HZ.out.below hb5)
    have HR := hide (HR.out.below hb5)
    have HP := hide (HP.out.below hb5)
    have g0 := bat hb5 LZ g0
    have g1 := bat hb5 LZ g1
    have g2 := bat hb5 LZ g2
    have LZ := lt_of_cell g0
    have p0 := bat hb5 LP p0
    have p1 := bat hb5 LP p1
    have LP := lt_of_cell p0
    have LST6 := hide hb5
    have SG6 := hide (below_trans SG4.out hb5)
    clear hb5
    rw [HE2.out]
    by_cases h2 : E2 = 0
    · subst h2
      obtain ⟨f1, f2, f3⟩ := HF1.out HE.out
      obtain ⟨f4, f5, f6⟩ := HF2.out HE2.out
      have K1 := hide f1
      have K2 := hide f2
      have K4 := hide f4
      have K5 := hide f5
      have hn2' : n2 ≤ 4096 := by omega
      have hn3' : n3 ≤ 4096 := by omega
      clear f1 f2 f3 f4 f5 f6 HR1 HR2 HF1 HF2
      go_upto_region 6 with (fail)
      go_wp2
      go_loopw [44] (fun i wr => ∃ k : Nat, k ≤ n3 ∧ i = .int .i64 k ∧ (∀ x ∈ part.take k, dayRow at_ z x.row = d) ∧ Below w5.heap.size w5 wr) (fun i _ => n3 - (RowKit.intOf i).toNat)
      case atStart => exact ⟨0, Nat.zero_le _, rfl, by simp, Below.refl _ _⟩
      case round =>
        obtain ⟨k, hk, rfl, hall, hb⟩ := hrel
        have HA := hide hall
        clear hall
        have HC := hide (HC.out.below hb)
        have HZ := hide (HZ.out.below hb)
        have HR := hide (HR.out.below hb)
        have HP := hide (HP.out.below hb)
        have g0 := bat hb LZ g0
        have g1 := bat hb LZ g1
        have g2 := bat hb LZ g2
        have LZ := lt_of_cell g0
        have p0 := bat hb LP p0
        have p1 := bat hb LP p1
        have LP := lt_of_cell p0
        have LST7 := hide hb
        have SG7 := hide hb
        clear hb
        by_cases hlt : k < n3
        · obtain ⟨b, off, x, rfl, hBb, HX, Ax, An, Ac, e0, e1, e2, e3⟩ := HP.out.ent hlt
          have k0 : (0 : Int) ≤ (k : Int) := by omega
          have k1 : (k : Int) < (n3 : Int) := by omega
          have HXM := hide (mem_of_drop HX.out)
          have HAX : Hid (at_ < (An : Int)) := hide (by have h := K4.out x HXM.out; have h2 := e2.len; omega)
          obtain ⟨dd, hdd⟩ : ∃ dd, dayRow at_ z x.row = dd := ⟨_, rfl⟩
          have HDD := hide hdd
          clear hdd
          go_upto_region 9 with (fail)
          have HXR := hide e2
          clear e2
          obtain ⟨W3, hW3⟩ : ∃ W, W = wr.alloc (.cells #[.slice Ax An Ac, .int .i64 x.count] 63) := ⟨_, rfl⟩
          have x0 : W3.cell? ⟨wr.heap.size, 0, none⟩ = some (.slice Ax An Ac) := by rw [hW3]; simp [go_sem]
          have x1 : W3.cell? ⟨wr.heap.size, 1, none⟩ = some (.int .i64 x.count) := by rw [hW3]; simp [go_sem]
          have hbW3 : Below wr.heap.size wr W3 := by rw [hW3]; exact below_alloc
          have SZW3 : Hid (W3.heap.size = wr.heap.size + 1) := hide (by rw [hW3]; exact World.size_alloc _ _)
          rw [← hW3]
          clear hW3
          have HC := hide (HC.out.below hbW3)
          have HZ := hide (HZ.out.below hbW3)
          have HR := hide (HR.out.below hbW3)
          have HP := hide (HP.out.below hbW3)
          have HXR := hide (HXR.out.below hbW3)
          have g0 := bat hbW3 LZ g0
          have g1 := bat hbW3 LZ g1
          have g2 := bat hbW3 LZ g2
          have LZ := lt_of_cell g0
          have p0 := bat hbW3 LP p0
          have p1 := bat hbW3 LP p1
          have LP := lt_of_cell p0
          have LST8 := hide hbW3
          have SG8 := hide (below_trans SG7.out hbW3)
          clear hbW3
          have LX := lt_of_cell x0
          have Rg0 := hide g0
          have Rg1 := hide g1
          have Rg2 := hide g2
          have Rp0 := hide p0
          have Rx0 := hide x0
          have RLP := hide LP
          have RLX := hide LX
          have RLZ := hide LZ
          have mk9 : True := trivial
          go_region_held3 (fun V => V.cell? ⟨w.heap.size, 0, none⟩ = some (.string z.name) ∧ V.cell? ⟨w.heap.size, 1, none⟩ = some (.int .i64 z.offset) ∧ V.cell? ⟨w.heap.size, 2, none⟩ = some (.slice A n c) ∧ V.cell? ⟨w.heap.size + 1, 0, none⟩ = some (.int .i64 d) ∧ V.cell? ⟨wr.heap.size, 0, none⟩ = some (.slice Ax An Ac))
            (first | exact ⟨bat RB10.out RLZ.out Rg0.out, bat RB10.out RLZ.out Rg1.out, bat RB10.out RLZ.out Rg2.out, bat RB10.out RLP.out Rp0.out, bat RB10.out RLX.out Rx0.out⟩ | exact ⟨g0, g1, g2, p0, x0⟩)
            (first | (clear mk9; go_at_call 44; refine (dayP_any _ A n c z (by exact HZ.out.below (Below.refl _ _).drew) ho _ _ _ x.row (by exact HXR.out.below (Below.refl _ _).drew) at_ HAX.out).mono ?_; rintro e w10 ⟨rfl, hb10⟩; have RB10 := hide (below_undrew hb10); rw [HDD.out]; clear hb10; have mk10 : True := trivial))
          have hbR10 := RB10.out
          clear mk10
          have HC := hide (HC.out.below hbR10)
          have HZ := hide (HZ.out.below hbR10)
          have HR := hide (HR.out.below hbR10)
          have HP := hide (HP.out.below hbR10)
          have HXR := hide (HXR.out.below hbR10)
          have g0 := bat hbR10 LZ g0
          have g1 := bat hbR10 LZ g1
          have g2 := bat hbR10 LZ g2
          have LZ := lt_of_cell g0
          have p0 := bat hbR10 LP p0
          have p1 := bat hbR10 LP p1
          have LP := lt_of_cell p0
          have x0 := bat hbR10 LX x0
          have x1 := bat hbR10 LX x1
          have LX := lt_of_cell x0
          have LST11 := hide hbR10
          have SG11 := hide (below_trans SG8.out hbR10)
          clear hbR10
          by_cases hq : dd = d
          · have q : (dd != d) = false := by simpa using hq
            have HA2 := hide (mem_drop (P := fun x : Ent => dayRow at_ z x.row = d) HX.out HA.out (HDD.out.trans hq))
            clear hq
            go_wp2
            all_goals (try (exfalso; go_light; simp_all; done))
            go_roundw
            case rel => exact ⟨k + 1, by omega, by go_num, HA2.out, SG11.out⟩
            case measure => simp [RowKit.intOf]; omega
          · have q : (dd != d) = true := by simpa using hq
            obtain rfl := HR3.out (by trivial) (by trivial) ⟨x, HXM.out, fun h => hq (HDD.out.symm.trans h)⟩
            clear hq
            go_wp2
            all_goals (try (exfalso; go_light; simp_all; done))
            go_ret2
            exact ⟨⟨_, rfl, OL.nil (below_trans SG6.out SG11.out).size⟩, (below_trans SG6.out SG11.out)⟩
        · have HAL : Hid (∀ x ∈ part, dayRow at_ z x.row = d) := hide (by
            have := HA.out
            rw [List.take_of_length_le (by omega)] at this
            exact this)
          have HRQ := hide (HR4.out (by trivial) (by trivial) HAL.out)
          obtain ⟨w4, rfl⟩ : ∃ w4, w4 = wr := ⟨wr, rfl⟩
          have HR4R := HR
          go_upto_region 12 with (fail)
          go_wp2
          go_loopw [16, 59] (fun o i wr => ∃ k : Nat, k ≤ n2 ∧ i = .int .i64 k ∧ OL 63 w4.heap.size (fun _ => True) [] wr o (restR at_ z (rows.take k) d) ∧ Below w4.heap.size w4 wr) (fun _ i _ => n2 - (RowKit.intOf i).toNat)
          case atStart => exact ⟨0, Nat.zero_le _, rfl, OL.nil (Nat.le_refl _), Below.refl _ _⟩
          case round =>
            obtain ⟨k, hk, rfl, hol, hb⟩ := hrel
            have HLE : Hid ((restR at_ z (rows.take k) d).length ≤ k) := hide (Nat.le_trans (List.length_filter_le _ _) (by rw [List.length_take]; omega))
            have HSM := hide (Same.below hb)
            by_cases hlt : k < n2
            · obtain ⟨b, off, x, rfl, hBb, HX, Ax, An, Ac, e0, e1, e2, e3⟩ := HR.out.ent hlt
              replace e0 := bat hb hBb e0
              replace e1 := bat hb hBb e1
              have HXR := hide (e2.below hb)
              have HXS := hide e2
              have HC := hide (HC.out.below hb)
              have HZ := hide (HZ.out.below hb)
              have HR := hide (HR.out.below hb)
              have HP := hide (HP.out.below hb)
              have g0 := bat hb LZ g0
              have g1 := bat hb LZ g1
              have g2 := bat hb LZ g2
              have LZ := lt_of_cell g0
              have p0 := bat hb LP p0
              have p1 := bat hb LP p1
              have LP := lt_of_cell p0
              have LST12 := hide hb
              have SG12 := hide hb
              clear hb
              have HO := hide hol
              clear hol
              have k0 : (0 : Int) ≤ (k : Int) := by omega
              have k1 : (k : Int) < (n2 : Int) := by omega
              have HXM := hide (mem_of_drop HX.out)
              have HAX : Hid (at_ < (An : Int)) := hide (by have h := K1.out x HXM.out; have h2 := e2.len; omega)
              have HTK : Hid (restR at_ z (rows.take (k + 1)) d = restR at_ z (rows.take k) d ++ (if dayRow at_ z x.row != d then [x] else [])) := hide (filter_snoc HX.out)
              obtain ⟨zs, hzs⟩ : ∃ zs, restR at_ z (rows.take k) d = zs := ⟨_, rfl⟩
              rw [hzs] at HO HLE HTK
              obtain ⟨dd, hdd⟩ : ∃ dd, dayRow at_ z x.row = dd := ⟨_, rfl⟩
              have HDD := hide hdd
              rw [hdd] at HTK
              have hle := HLE.out
              clear hdd hzs e2
              go_upto_region 16 with (fail)
              obtain ⟨W3, hW3⟩ : ∃ W, W = wr.alloc (.cells #[.slice Ax An Ac, .int .i64 x.count] 63) := ⟨_, rfl⟩
              have x0 : W3.cell? ⟨wr.heap.size, 0, none⟩ = some (.slice Ax An Ac) := by rw [hW3]; simp [go_sem]
              have x1 : W3.cell? ⟨wr.heap.size, 1, none⟩ = some (.int .i64 x.count) := by rw [hW3]; simp [go_sem]
              have hbW3 : Below wr.heap.size wr W3 := by rw [hW3]; exact below_alloc
              have SZW3 : Hid (W3.heap.size = wr.heap.size + 1) := hide (by rw [hW3]; exact World.size_alloc _ _)
              rw [← hW3]
              clear hW3
              have HC := hide (HC.out.below hbW3)
              have HZ := hide (HZ.out.below hbW3)
              have HR := hide (HR.out.below hbW3)
              have HP := hide (HP.out.below hbW3)
              have HO := hide (HO.out.below hbW3)
              have HXR := hide (HXR.out.below hbW3)
              have g0 := bat hbW3 LZ g0
              have g1 := bat hbW3 LZ g1
              have g2 := bat hbW3 LZ g2
              have LZ := lt_of_cell g0
              have p0 := bat hbW3 LP p0
              have p1 := bat hbW3 LP p1
              have LP := lt_of_cell p0
              have LST13 := hide hbW3
              have SG13 := hide (below_trans SG12.out hbW3)
              clear hbW3
              have LX := lt_of_cell x0
              have Rg0 := hide g0
              have Rg1 := hide g1
              have Rg2 := hide g2
              have Rp0 := hide p0
              have Rx0 := hide x0
              have RLP := hide LP
              have RLX := hide LX
              have RLZ := hide LZ
              have mk14 : True := trivial
              go_region_held3 (fun V => V.cell? ⟨w.heap.size, 0, none⟩ = some (.string z.name) ∧ V.cell? ⟨w.heap.size, 1, none⟩ = some (.int .i64 z.offset) ∧ V.cell? ⟨w.heap.size, 2, none⟩ = some (.slice A n c) ∧ V.cell? ⟨w.heap.size + 1, 0, none⟩ = some (.int .i64 d) ∧ V.cell? ⟨wr.heap.size, 0, none⟩ = some (.slice Ax An Ac))
                (first | exact ⟨bat RB15.out RLZ.out Rg0.out, bat RB15.out RLZ.out Rg1.out, bat RB15.out RLZ.out Rg2.out, bat RB15.out RLP.out Rp0.out, bat RB15.out RLX.out Rx0.out⟩ | exact ⟨g0, g1, g2, p0, x0⟩)
                (first | (clear mk14; go_at_call 44; refine (dayP_any _ A n c z (by exact HZ.out.below (Below.refl _ _).drew) ho _ _ _ x.row (by exact HXR.out.below (Below.refl _ _).drew) at_ HAX.out).mono ?_; rintro e w15 ⟨rfl, hb15⟩; have RB15 := hide (below_undrew hb15); rw [HDD.out]; clear hb15; have mk15 : True := trivial))
              have hbR15 := RB15.out
              clear mk15
              have HC := hide (HC.out.below hbR15)
              have HZ := hide (HZ.out.below hbR15)
              have HR := hide (HR.out.below hbR15)
              have HP := hide (HP.out.below hbR15)
              have HO := hide (HO.out.below hbR15)
              have HXR := hide (HXR.out.below hbR15)
              have g0 := bat hbR15 LZ g0
              have g1 := bat hbR15 LZ g1
              have g2 := bat hbR15 LZ g2
              have LZ := lt_of_cell g0
              have p0 := bat hbR15 LP p0
              have p1 := bat hbR15 LP p1
              have LP := lt_of_cell p0
              have x0 := bat hbR15 LX x0
              have x1 := bat hbR15 LX x1
              have LX := lt_of_cell x0
              have LST16 := hide hbR15
              have SG16 := hide (below_trans SG13.out hbR15)
              clear hbR15
              have HXB := hide ((HXS.out.keep (Same.below SG16.out)).mono fun k (hk : k < w4.heap.size) => (.inl ⟨trivial, hk⟩ : BS w4.heap.size (fun _ => True) [] w15 k))
              by_cases hq : dd = d
              · have q : (dd != d) = false := by simpa using hq
                clear hq
                go_wp2
                all_goals (try (exfalso; go_light; simp_all; done))
                go_roundw
                case rel => exact ⟨k + 1, by omega, by go_num, by rw [HTK.out, q]; simpa using HO.out, SG16.out⟩
                case measure => simp [RowKit.intOf]; omega
              · have q : (dd != d) = true := by simpa using hq
                clear hq
                go_wp2_with (at_builtin; refine wpList_push_OL _ rfl _ _ _ rfl elem_ents (by simp) _ _ rfl HO.out rfl rfl x ⟨_, _, _, rfl, HXB.out, e3⟩ (by simp only [maxLen]; omega) (by omega) ?_; intro v1 w9 ho9 hb9 hg9 hat9)
                all_goals (try (exfalso; go_light; simp_all; done))
                have HO9 := hide ho9
                have HB9 := hide (SG16.out.trans hb9)
                clear ho9 hb9 hg9 hat9
                go_wp2
                all_goals (try (exfalso; go_light; simp_all; done))
                go_roundw
                case rel => exact ⟨k + 1, by omega, by go_num, by rw [HTK.out, q]; simpa using HO9.out, HB9.out⟩
                case measure => simp [RowKit.intOf]; omega
            · have HC := hide (HC.out.below hb)
              have HZ := hide (HZ.out.below hb)
              have HR := hide (HR.out.below hb)
              have HP := hide (HP.out.below hb)
              have g0 := bat hb LZ g0
              have g1 := bat hb LZ g1
              have g2 := bat hb LZ g2
              have LZ := lt_of_cell g0
              have p0 := bat hb LP p0
              have p1 := bat hb LP p1
              have LP := lt_of_cell p0
              have LST17 := hide hb
              have SG17 := hide hb
              clear hb
              have HO := hide hol
              clear hol
              have HF : Hid (rows.take k = rows) := hide (List.take_of_length_le (by omega))
              rw [HF.out] at HO
              obtain ⟨A6, c6, hv, hin⟩ := HO.out.inn
              subst hv
              have hsz := (below_trans (below_trans SG6.out SG7.out) SG17.out).size
              go_wp2_with fail
              refine (add_bag _ A6 _ c6 _ hin _ _ _ part HP.out).mono ?_
              rintro e w18 ⟨⟨v6, rfl, ho6⟩, hb18⟩
              have HC := hide (HC.out.below hb18)
              have HZ := hide (HZ.out.below hb18)
              have HR := hide (HR.out.below hb18)
              have HP := hide (HP.out.below hb18)
              have HO := hide (HO.out.below hb18)
              have g0 := bat hb18 LZ g0
              have g1 := bat hb18 LZ g1
              have g2 := bat hb18 LZ g2
              have LZ := lt_of_cell g0
              have p0 := bat hb18 LP p0
              have p1 := bat hb18 LP p1
              have LP := lt_of_cell p0
              have LST19 := hide hb18
              have SG19 := hide (below_trans SG17.out hb18)
              clear hb18
              have HO6 := hide (ho6.rebase hsz)
              clear ho6
              generalize addS (restR at_ z rows d) part = R2 at *
              obtain rfl := HRQ.out
              go_wp2
              go_ret2
              exact ⟨⟨_, rfl, HO6.out⟩, (below_trans (below_trans SG6.out SG7.out) SG19.out)⟩
    · obtain rfl := HR2.out (by trivial) h2
      have q : (E2 != 0) = true := by simpa using h2
      clear h2
      go_wp2
      all_goals (try (exfalso; go_light; simp_all; done))
      go_ret2
      exact ⟨⟨_, rfl, OL.nil SG6.out.size⟩, SG6.out⟩
  · obtain rfl := HR1.out h0
    have q : (E != 0) = true := by simpa using h0
    have q2 : (E == 0) = false := by simpa using h0
    clear h0
    go_wp2
    all_goals (try (exfalso; go_light; simp_all; done))
    go_ret2
    exact ⟨⟨_, rfl, OL.nil SG4.out.size⟩, SG4.out⟩
end Go.Proofs.YtlbhnfnecfllkaaGreat
