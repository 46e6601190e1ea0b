/-
  warehouseref22.Replace.
-/
import Derived.Test.YtlbhnfnecfllkaaGreatRepl
namespace Go.Proofs.YtlbhnfnecfllkaaGreat
open Go.RowKit
set_option linter.unusedSimpArgs false
set_option linter.unusedVariables false

set_option maxHeartbeats 8000000 in
set_option maxRecDepth 100000 in
theorem replR_ref (w : World) (A1 : Option Addr) (n1 c1 : Nat) (cols : List Col) (hc : In w A1 n1 c1 cols) (col : ByteArray) (A : Option Addr) (n c : Nat) (z : Zone) (hx : In w A n c z.shifts) (ho : I64 z.offset) (A2 : Option Addr) (n2 c2 : Nat) (rows : List Ent) (hr : In w A2 n2 c2 rows) (d : Int) (A3 : Option Addr) (n3 c3 : Nat) (part : List Ent) (hp : In w A3 n3 c3 part) :
    Calls Tryz.prog 21 #[.slice A1 n1 c1, .string col, .agg #[.string z.name, .int .i64 z.offset, .slice A n c], .slice A2 n2 c2, .agg #[.int .i64 d, .slice A3 n3 c3]] w
      fun e w' => (∃ v, e = .returned (.tuple #[v, .int .i64 (replS cols col z rows d part).1]) ∧ OE w.heap.size w' v (replS cols col z rows d part).2) ∧ Below w.heap.size w w' := by
  have HF1 := hide (scheme_fit (cols := cols) (col := col) (z := z) (rows := rows))
  have HF2 := hide (scheme_fit (cols := cols) (col := col) (z := z) (rows := part))
  have HR1 := hide (replS_e1 (cols := cols) (col := col) (z := z) (rows := rows) (d := d) (part := part))
  have HR2 := hide (replS_e2 (cols := cols) (col := col) (z := z) (rows := rows) (d := d) (part := part))
  have HR3 := hide (replS_bad (cols := cols) (col := col) (z := z) (rows := rows) (d := d) (part := part))
  have HR4 := hide (replS_norm (cols := cols) (col := col) (z := z) (rows := rows) (d := d) (part := part))
  obtain ⟨R, hR⟩ : ∃ R, replS cols col z rows d part = R := ⟨_, rfl⟩
  rw [hR] at HR1 HR2 HR3 HR4 ⊢
  obtain ⟨E, hE⟩ : ∃ E, schemeErr cols col z rows = E := ⟨_, rfl⟩
  have HE := hide hE
  obtain ⟨E2, hE2⟩ : ∃ E, schemeErr cols col z part = E := ⟨_, rfl⟩
  have HE2 := hide hE2
  rw [hE] at HR1 HR2 HR3 HR4
  rw [hE2] at HR2 HR3 HR4
  clear hE hR hE2
  obtain ⟨at_, hat⟩ : ∃ at_, (findS cols col z).1 = at_ := ⟨_, rfl⟩
  have HAT := hide hat
  rw [hat] at HF1 HF2 HR3 HR4
  clear hat
  have hn2 := hr.len
  have hn3 := hp.len
  have h63 := hp.le
  have h64 := hr.le
  go_enter Tryz.func21, Tryz.ntmps21
  go_upto_region 1 with (fail)
  have HC := hide hc
  clear hc
  have HZ := hide hx
  clear hx
  have HR := hide hr
  clear hr
  have HP := hide hp
  clear hp
  obtain ⟨W1, hW1⟩ : ∃ W, W = w.alloc (.cells #[.string z.name, .int .i64 z.offset, .slice A n c] 25) := ⟨_, rfl⟩
  have g0 : W1.cell? ⟨w.heap.size, 0, none⟩ = some (.string z.name) := by rw [hW1]; simp [go_sem]
  have g1 : W1.cell? ⟨w.heap.size, 1, none⟩ = some (.int .i64 z.offset) := by rw [hW1]; simp [go_sem]
  have g2 : W1.cell? ⟨w.heap.size, 2, none⟩ = some (.slice A n c) := by rw [hW1]; simp [go_sem]
  have hbW1 : Below w.heap.size w W1 := by rw [hW1]; exact below_alloc
  have SZW1 : Hid (W1.heap.size = w.heap.size + 1) := hide (by rw [hW1]; exact World.size_alloc _ _)
  rw [← hW1]
  clear hW1
  have HC := hide (HC.out.below hbW1)
  have HZ := hide (HZ.out.below hbW1)
  have HR := hide (HR.out.below hbW1)
  have HP := hide (HP.out.below hbW1)
  have LST1 := hide hbW1
  have SG1 := hide hbW1
  clear hbW1
  have LZ := lt_of_cell g0
  obtain ⟨W2, hW2⟩ : ∃ W, W = W1.alloc (.cells #[.int .i64 d, .slice A3 n3 c3] 44) := ⟨_, rfl⟩
  have p0 : W2.cell? ⟨w.heap.size + 1, 0, none⟩ = some (.int .i64 d) := by rw [← SZW1.out, hW2]; simp [go_sem]
  have p1 : W2.cell? ⟨w.heap.size + 1, 1, none⟩ = some (.slice A3 n3 c3) := by rw [← SZW1.out, hW2]; simp [go_sem]
  have hbW2 : Below W1.heap.size W1 W2 := by rw [hW2]; exact below_alloc
  have SZW2 : Hid (W2.heap.size = W1.heap.size + 1) := hide (by rw [hW2]; exact World.size_alloc _ _)
  rw [← hW2]
  clear hW2
  have HC := hide (HC.out.below hbW2)
  have HZ := hide (HZ.out.below hbW2)
  have HR := hide (HR.out.below hbW2)
  have HP := hide (HP.out.below hbW2)
  have g0 := bat hbW2 LZ g0
  have g1 := bat hbW2 LZ g1
  have g2 := bat hbW2 LZ g2
  have LZ := lt_of_cell g0
  have LST2 := hide hbW2
  have SG2 := hide (below_trans SG1.out hbW2)
  clear hbW2
  have LP := lt_of_cell p0
  go_wp2_with fail
  have hdays := days_ref W2 A1 n1 c1 cols HC.out col A n c z HZ.out ho A2 n2 c2 rows HR.out
  rw [HE.out, HAT.out] at hdays
  refine hdays.mono ?_
  rintro e w3 ⟨⟨B, bd, ds, rfl, hds, hdd⟩, hb3⟩
  have HDD := hide hdd
  clear hdays hdd
  have HC := hide (HC.out.below hb3)
  have HZ := hide (HZ.out.below hb3)
  have HR := hide (HR.out.below hb3)
  have HP := hide (HP.out.below hb3)
  have g0 := bat hb3 LZ g0
  have g1 := bat hb3 LZ g1
  have g2 := bat hb3 LZ g2
  have LZ := lt_of_cell g0
  have p0 := bat hb3 LP p0
  have p1 := bat hb3 LP p1
  have LP := lt_of_cell p0
  have LST3 := hide hb3
  have SG3 := hide (below_trans SG2.out hb3)
  clear hb3
  have HDS := hide hds
  clear hds
  by_cases h0 : E = 0
  · subst h0
    have HQ1 := hide (HDD.out (by trivial))
    go_wp2_with fail
    have hdays2 := days_ref w3 A1 n1 c1 cols HC.out col A n c z HZ.out ho A3 n3 c3 part HP.out
    rw [HE2.out, HAT.out] at hdays2
    refine hdays2.mono ?_
    rintro e w4 ⟨⟨B2, bd2, ds2, rfl, hds2, hdd2⟩, hb4⟩
    have HDD2 := hide hdd2
    clear hdays2 hdd2
    have HC := hide (HC.out.below hb4)
    have HZ := hide (HZ.out.below hb4)
    have HR := hide (HR.out.below hb4)
    have HP := hide (HP.out.below hb4)
    have HDS := hide (HDS.out.below hb4)
    have g0 := bat hb4 LZ g0
    have g1 := bat hb4 LZ g1
    have g2 := bat hb4 LZ g2
    have LZ := lt_of_cell g0
    have p0 := bat hb4 LP p0
    have p1 := bat hb4 LP p1
    have LP := lt_of_cell p0
    have LST4 := hide hb4
    have SG4 := hide (below_trans SG3.out hb4)
    clear hb4
    have HDT := hide hds2
    clear hds2
    by_cases h2 : E2 = 0
    · subst h2
      have HQ2 := hide (HDD2.out (by trivial))
      obtain ⟨f1, f2, f3⟩ := HF1.out HE.out
      obtain ⟨f4, f5, f6⟩ := HF2.out HE2.out
      have hn2' : n2 ≤ 4096 := by omega
      have hn3' : n3 ≤ 4096 := by omega
      have hl1 : ds.length = n2 := by rw [HQ1.out, daysR, List.length_map, hn2]
      have hl2 : ds2.length = n3 := by rw [HQ2.out, daysR, List.length_map, hn3]
      rw [hl1] at HDS
      rw [hl2] at HDT
      have HL1 := hide hl1
      have HL2 := hide hl2
      rw [HL1.out, HL2.out]
      clear f1 f2 f3 f4 f5 f6 HR1 HR2 HF1 HF2 hl1 hl2 HDD HDD2
      go_upto_region 7 with (fail)
      go_wp2
      go_loopw [15] (fun i wr => ∃ k : Nat, k ≤ n3 ∧ i = .int .i64 k ∧ (∀ x ∈ ds2.take k, x = d) ∧ Below w4.heap.size w4 wr) (fun i _ => n3 - (RowKit.intOf i).toNat)
      case atStart => exact ⟨0, Nat.zero_le _, rfl, by simp, Below.refl _ _⟩
      case round =>
        obtain ⟨k, hk, rfl, hall, hb⟩ := hrel
        have HA := hide hall
        clear hall
        have HC := hide (HC.out.below hb)
        have HZ := hide (HZ.out.below hb)
        have HR := hide (HR.out.below hb)
        have HP := hide (HP.out.below hb)
        have HDS := hide (HDS.out.below hb)
        have HDT := hide (HDT.out.below hb)
        have g0 := bat hb LZ g0
        have g1 := bat hb LZ g1
        have g2 := bat hb LZ g2
        have LZ := lt_of_cell g0
        have p0 := bat hb LP p0
        have p1 := bat hb LP p1
        have LP := lt_of_cell p0
        have LST5 := hide hb
        have SG5 := hide hb
        clear hb
        by_cases hlt : k < n3
        · obtain ⟨b, off, x, rfl, hBb, HX, e0, e1⟩ := HDT.out.int hlt
          have k0 : (0 : Int) ≤ (k : Int) := by omega
          have k1 : (k : Int) < (n3 : Int) := by omega
          have HXM := hide (mem_of_drop HX.out)
          by_cases hq : x = d
          · have q : (x != d) = false := by simpa using hq
            have HA2 := hide (mem_drop (P := fun x : Int => x = d) HX.out HA.out hq)
            clear hq
            go_wp2
            go_quiet (fail)
            go_wp2
            all_goals (try (exfalso; go_light; simp_all; done))
            go_roundw
            case rel => exact ⟨k + 1, by omega, by go_num, HA2.out, below_any SG5.out⟩
            case measure => simp [RowKit.intOf]; omega
          · have q : (x != d) = true := by simpa using hq
            have HBAD : Hid (∃ y ∈ part, dayRow at_ z y.row ≠ d) := hide (by
              have h := HXM.out
              rw [HQ2.out] at h
              obtain ⟨y, hy, e⟩ := List.mem_map.1 h
              exact ⟨y, hy, fun g => hq (e.symm.trans g)⟩)
            obtain rfl := HR3.out (by trivial) (by trivial) HBAD.out
            clear hq
            go_wp2
            go_quiet (fail)
            go_wp2
            all_goals (try (exfalso; go_light; simp_all; done))
            go_ret2
            exact ⟨⟨_, rfl, OL.nil (below_any (below_trans SG4.out SG5.out)).size⟩, below_any (below_trans SG4.out SG5.out)⟩
        · have HAL : Hid (∀ x ∈ part, dayRow at_ z x.row = d) := hide (by
            have := HA.out
            rw [List.take_of_length_le (by rw [HL2.out]; omega), HQ2.out] at this
            exact fun x hx => this _ (List.mem_map.2 ⟨x, hx, rfl⟩))
          have HRQ := hide (HR4.out (by trivial) (by trivial) HAL.out)
          obtain ⟨w5, rfl⟩ : ∃ w5, w5 = wr := ⟨wr, rfl⟩
          have HSZ5 := hide (below_trans SG4.out SG5.out).size
          go_upto_region 12 with (fail)
          go_wp2
          go_loopw [16, 17] (fun o i wr => ∃ k : Nat, k ≤ n2 ∧ i = .int .i64 k ∧ OL 63 w5.heap.size (fun _ => True) [] wr o (restR at_ z (rows.take k) d) ∧ Below w5.heap.size w5 wr) (fun _ i _ => n2 - (RowKit.intOf i).toNat)
          case atStart => exact ⟨0, Nat.zero_le _, rfl, OL.nil (Nat.le_refl _), Below.refl _ _⟩
          case round =>
            obtain ⟨k, hk, rfl, hol, hb⟩ := hrel
            have HLE : Hid ((restR at_ z (rows.take k) d).length ≤ k) := hide (Nat.le_trans (List.length_filter_le _ _) (by rw [List.length_take]; omega))
            have HSM := hide (Same.below hb)
            by_cases hlt : k < n2
            · obtain ⟨b, off, x, rfl, hBb, HX, Ax, An, Ac, e0, e1, e2, e3⟩ := HR.out.ent hlt
              replace e0 := bat hb hBb e0
              replace e1 := bat hb hBb e1
              have hBr := lt_of_cell e0
              have HXS : Hid (Sl wr (BS w5.heap.size (fun _ => True) [] wr) Ax An Ac x.row) := hide ((e2.keep HSM.out).mono fun k hk => .inl ⟨trivial, hk⟩)
              have HC := hide (HC.out.below hb)
              have HZ := hide (HZ.out.below hb)
              have HR := hide (HR.out.below hb)
              have HP := hide (HP.out.below hb)
              have HDS := hide (HDS.out.below hb)
              have HDT := hide (HDT.out.below hb)
              have g0 := bat hb LZ g0
              have g1 := bat hb LZ g1
              have g2 := bat hb LZ g2
              have LZ := lt_of_cell g0
              have p0 := bat hb LP p0
              have p1 := bat hb LP p1
              have LP := lt_of_cell p0
              have LST6 := hide hb
              have SG6 := hide hb
              clear hb
              have HO := hide hol
              clear hol
              obtain ⟨b2, off2, y, rfl, hBb2, HY, i0, i1⟩ := HDS.out.int hlt
              have k0 : (0 : Int) ≤ (k : Int) := by omega
              have k1 : (k : Int) < (n2 : Int) := by omega
              have HXY : Hid (y = dayRow at_ z x.row) := hide (by
                have h1 := HY.out
                rw [HQ1.out, daysR, ← List.map_drop, HX.out, List.map_cons] at h1
                injection h1 with h1
                exact h1.symm)
              have HTK : Hid (restR at_ z (rows.take (k + 1)) d = restR at_ z (rows.take k) d ++ (if y != d then [x] else [])) := hide (by rw [HXY.out]; exact filter_snoc HX.out)
              obtain ⟨zs, hzs⟩ : ∃ zs, restR at_ z (rows.take k) d = zs := ⟨_, rfl⟩
              rw [hzs] at HO HLE HTK
              have hle := HLE.out
              clear hzs e2
              by_cases hq : y = d
              · have q : (y != d) = false := by simpa using hq
                clear hq
                go_wp2
                go_quiet (fail)
                go_wp2
                all_goals (try (exfalso; go_light; simp_all; done))
                go_roundw
                case rel => exact ⟨k + 1, by omega, by go_num, by rw [HTK.out, q]; simpa using HO.out.below (below_any (Below.refl _ _)), below_any SG6.out⟩
                case measure => simp [RowKit.intOf]; omega
              · have q : (y != d) = true := by simpa using hq
                clear hq
                go_wp2
                go_quiet (fail)
                go_wp2_with (at_builtin; refine wpList_push_OL _ rfl _ _ _ rfl elem_ents (by simp) _ _ rfl (HO.out.below (below_any (Below.refl _ _))) rfl rfl x ⟨_, _, _, rfl, HXS.out, e3⟩ (by simp only [maxLen]; omega) (by omega) ?_; intro v1 w9 ho9 hb9 hg9 hat9)
                all_goals (try (exfalso; go_light; simp_all; done))
                have HO9 := hide ho9
                have HB9 := hide ((below_any SG6.out).trans hb9)
                clear ho9 hb9 hg9 hat9
                go_wp2
                all_goals (try (exfalso; go_light; simp_all; done))
                go_roundw
                case rel => exact ⟨k + 1, by omega, by go_num, by rw [HTK.out, q]; simpa using HO9.out, HB9.out⟩
                case measure => simp [RowKit.intOf]; omega
            · have HP5 := HP
              have HSB := hide hb
              have HC := hide (HC.out.below hb)
              have HZ := hide (HZ.out.below hb)
              have HR := hide (HR.out.below hb)
              have HP := hide (HP.out.below hb)
              have HDS := hide (HDS.out.below hb)
              have HDT := hide (HDT.out.below hb)
              have g0 := bat hb LZ g0
              have g1 := bat hb LZ g1
              have g2 := bat hb LZ g2
              have LZ := lt_of_cell g0
              have p0 := bat hb LP p0
              have p1 := bat hb LP p1
              have LP := lt_of_cell p0
              have LST7 := hide hb
              have SG7 := hide hb
              clear hb
              have HO := hide hol
              clear hol
              have HF : Hid (rows.take k = rows) := hide (List.take_of_length_le (by omega))
              rw [HF.out] at HO HLE
              have hle := HLE.out
              obtain ⟨cs, hcs, hsrc⟩ := HP.out.cells
              have hbase := HO.out.base
              have HA3 : Hid (A3 = none → n3 = 0) := hide fun h => by have h1 := HP.out.2.2.2.1 h; have h2 := HP.out.2.1; omega
              obtain ⟨cs5, hcs5, hsrc5⟩ := Sl.cells HP5.out
              have HCC : Hid (∃ cs, Cells wr (BS w5.heap.size (fun _ => True) [] wr) cs part ∧ Src wr 2 A3 n3 cs) := hide ⟨cs5, (hcs5.keep (Same.below HSB.out)).mono fun k hk => .inl ⟨trivial, hk⟩, hsrc5.1, fun h0 => by
                obtain ⟨b', o', e, hc⟩ := hsrc5.2 h0
                refine ⟨b', o', e, fun j u hu => ?_⟩
                have hcj := hc j u hu
                exact bat HSB.out (lt_of_cell hcj) hcj⟩
              clear hcs hsrc hcs5 hsrc5 cs cs5
              obtain ⟨cs, hcs, hsrc⟩ := HCC.out
              have HCS := hide hcs
              have HSRC := hide hsrc
              clear hcs hsrc HCC
              go_wp2_with (at_builtin; refine wpList_append_OL _ rfl _ _ _ rfl elem_ents (by simp) HO.out rfl A3 n3 c3 cs part rfl HA3.out HSRC.out HCS.out hn3 (by simp only [maxLen]; omega) (by omega) ?_; intro v1 w9 ho9 hb9 hg9 hat9)
              have hb10 := (below_trans (below_trans SG4.out SG5.out) SG7.out).trans (hb9.mono HSZ5.out)
              obtain ⟨A6, c6, hv, hin⟩ := ho9.inn
              subst hv
              have HB10 := hide hb10
              have hsz10 := hb10.size
              have hlen : (restR at_ z rows d ++ part).length ≤ 1048576 := by rw [List.length_append]; omega
              clear ho9 hb9 hg9 hat9
              generalize restR at_ z rows d ++ part = Q at *
              go_wp2_with fail
              refine (normalize_ref _ A6 _ c6 Q hin hlen).mono ?_
              rintro e w11 ⟨⟨v6, m6, zs6, rfl, hf6, hn6⟩, hb11⟩
              have HO6 := hide ((hf6.ol hb11.size).rebase hsz10)
              have HN6 := hide (normed_S hn6)
              have HB11 := hide (below_trans HB10.out hb11)
              clear hf6 hn6 hb11
              obtain rfl := HRQ.out.trans HN6.out
              go_wp2
              go_ret2
              exact ⟨⟨_, rfl, HO6.out⟩, HB11.out⟩
    · obtain rfl := HR2.out (by trivial) h2
      have q : (E2 != 0) = true := by simpa using h2
      clear h2
      go_wp2
      all_goals (try (exfalso; go_light; simp_all; done))
      go_ret2
      exact ⟨⟨_, rfl, OL.nil SG4.out.size⟩, SG4.out⟩
  · obtain rfl := HR1.out h0
    have q : (E != 0) = true := by simpa using h0
    clear h0
    go_wp2
    all_goals (try (exfalso; go_light; simp_all; done))
    go_ret2
    exact ⟨⟨_, rfl, OL.nil SG3.out.size⟩, SG3.out⟩
end Go.Proofs.YtlbhnfnecfllkaaGreat
