/-
  warehouselaw22.PartitionReplace. (Printed by gen_lwr.py.)
-/
import Derived.Test.YtlbhnfnecfllkaaGreatLwK
import Derived.Test.YtlbhnfnecfllkaaGreatReplR
namespace Go.Proofs.YtlbhnfnecfllkaaGreat
open Go.RowKit
set_option linter.unusedSimpArgs false
set_option linter.unusedVariables false

theorem off_low {α : Type} [Rep α] {w w' : World} {gb : Nat} {A : Option Addr} {n c : Nat} {xs : List α} (h : In w A n c xs) (hb : Below w.heap.size w w') (hg : w.heap.size ≤ gb) : Off w' gb A n c xs :=
  (h.keep (Same.below hb)).mono fun k (hk : k < w.heap.size) => ⟨Nat.lt_of_lt_of_le hk hb.size, by omega⟩
theorem tdiv2_bd {x : Int} (h : I64 x) : -9223372036854775808 ≤ x.tdiv 2 ∧ x.tdiv 2 ≤ 9223372036854775807 := by
  obtain ⟨h1, h2⟩ := h
  rw [Int.tdiv_eq_ediv]
  have : Int.sign 2 = 1 := rfl
  split <;> omega
theorem split_le {cols : List Col} {zs : List Ent} {Z : Zone} {ps : List Partn} {m : Nat} (h : TabOf cols zs) (hc : cols ∈ wCols) (hE : schemeErr cols ⟨#[97, 116]⟩ Z zs = 0) (hs : schemeErr cols ⟨#[97, 116]⟩ Z zs = 0 → IsSplit (findS cols ⟨#[97, 116]⟩ Z).1 Z zs ps) (hm : ps.length = m) : m ≤ 1000 := by
  obtain ⟨hasc, hdays⟩ := split_days (hs hE)
  have h2 : ps.length = (ps.map Partn.day).length := by simp
  have h3 : (ps.map Partn.day).length ≤ (daysR (findS cols ⟨#[97, 116]⟩ Z).1 Z zs).length := List.Nodup.length_le_of_subset (List.nodup_iff_pairwise_ne.2 (hasc.imp fun h => by omega)) fun d hd => (hdays d).1 hd
  have h5 : (daysR (findS cols ⟨#[97, 116]⟩ Z).1 Z zs).length = zs.length := by rw [daysR, List.length_map]
  have h6 := (h.bag (by have := (wCols_good cols hc).2; omega)).2.2
  omega
set_option maxHeartbeats 8000000 in
set_option maxRecDepth 100000 in
theorem lawRe_any (w : World) (A1 : Option Addr) (n1 c1 : Nat) (cols : List Col) (hc : In w A1 n1 c1 cols) (col : ByteArray) (A : Option Addr) (n c : Nat) (z : Zone) (hx : In w A n c z.shifts) (ho : I64 z.offset) (A2 : Option Addr) (n2 c2 : Nat) (rows : List Ent) (hr : In w A2 n2 c2 rows) (d : Int) (A6 : Option Addr) (n6 c6 : Nat) (part : List Ent) (hp : In w A6 n6 c6 part) (nn zz : Int) (A3 : Option Addr) (n3 c3 : Nat) (l : List Int) (hl : In w A3 n3 c3 l) (by_ : Int) (hby : I64 by_) :
    Calls Tryz.prog 5 #[.slice A1 n1 c1, .string col, .agg #[.string z.name, .int .i64 z.offset, .slice A n c], .slice A2 n2 c2, .agg #[.int .i64 d, .slice A6 n6 c6], .int .i64 nn, .int .i64 zz, .slice A3 n3 c3, .int .i64 by_] w
      fun e w' => e = .returned (.bool true) ∧ Below w.heap.size w w' := by
  have h1 := hc.le
  have h3 := hl.le
  have h4 := hx.le
  obtain ⟨sm, hsm⟩ : ∃ sm, (decide (n1 ≤ 16) && decide (n ≤ 70) && decide (n3 ≤ 80)) = sm := ⟨_, rfl⟩
  have HSM := hide hsm
  clear hsm
  obtain ⟨PK, hPK⟩ : ∃ PK, replS cols col z rows d part = PK := ⟨_, rfl⟩
  have HPK := hide hPK
  clear hPK
  go_enter Tryz.func5, Tryz.ntmps5
  go_wp2_with fail
  have HC := hide hc
  clear hc
  have HX := hide hx
  clear hx
  have HR := hide hr
  clear hr
  have HL := hide hl
  clear hl
  have HP := hide hp
  clear hp
  obtain ⟨W1, hW1⟩ : ∃ W, W = w.alloc (.cells #[.string z.name, .int .i64 z.offset, .slice A n c] 25) := ⟨_, rfl⟩
  have g0 : W1.cell? ⟨w.heap.size, 0, none⟩ = some (.string z.name) := by rw [hW1]; simp [go_sem]
  have g1 : W1.cell? ⟨w.heap.size, 1, none⟩ = some (.int .i64 z.offset) := by rw [hW1]; simp [go_sem]
  have g2 : W1.cell? ⟨w.heap.size, 2, none⟩ = some (.slice A n c) := by rw [hW1]; simp [go_sem]
  have hbW1 : Below w.heap.size w W1 := by rw [hW1]; exact below_alloc
  have SZW1 : Hid (W1.heap.size = w.heap.size + 1) := hide (by rw [hW1]; exact World.size_alloc _ _)
  rw [← hW1]
  clear hW1
  have HC := hide (HC.out.below hbW1)
  have HX := hide (HX.out.below hbW1)
  have HR := hide (HR.out.below hbW1)
  have HL := hide (HL.out.below hbW1)
  have HP := hide (HP.out.below hbW1)
  have LST1 := hide hbW1
  have SG1 := hide hbW1
  clear hbW1
  have LZ := lt_of_cell g0
  obtain ⟨W2, hW2⟩ : ∃ W, W = W1.alloc (.cells #[.int .i64 d, .slice A6 n6 c6] 44) := ⟨_, rfl⟩
  have p0 : W2.cell? ⟨w.heap.size + 1, 0, none⟩ = some (.int .i64 d) := by rw [← SZW1.out, hW2]; simp [go_sem]
  have p1 : W2.cell? ⟨w.heap.size + 1, 1, none⟩ = some (.slice A6 n6 c6) := by rw [← SZW1.out, hW2]; simp [go_sem]
  have hbW2 : Below W1.heap.size W1 W2 := by rw [hW2]; exact below_alloc
  have SZW2 : Hid (W2.heap.size = W1.heap.size + 1) := hide (by rw [hW2]; exact World.size_alloc _ _)
  rw [← hW2]
  clear hW2
  have HC := hide (HC.out.below hbW2)
  have HX := hide (HX.out.below hbW2)
  have HR := hide (HR.out.below hbW2)
  have HL := hide (HL.out.below hbW2)
  have HP := hide (HP.out.below hbW2)
  have g0 := bat hbW2 LZ g0
  have g1 := bat hbW2 LZ g1
  have g2 := bat hbW2 LZ g2
  have LZ := lt_of_cell g0
  have LST2 := hide hbW2
  have SG2 := hide (below_trans SG1.out hbW2)
  clear hbW2
  have LP := lt_of_cell p0
  refine (small_law _ A1 A A3 n1 c1 n c n3 c3 z.name z.offset h1 h4 h3).mono ?_
  rintro e w1 ⟨rfl, hb1⟩
  rw [HSM.out]
  clear h1 h3 h4
  have HC := hide (HC.out.below hb1)
  have HX := hide (HX.out.below hb1)
  have HR := hide (HR.out.below hb1)
  have HL := hide (HL.out.below hb1)
  have HP := hide (HP.out.below hb1)
  have g0 := bat hb1 LZ g0
  have g1 := bat hb1 LZ g1
  have g2 := bat hb1 LZ g2
  have LZ := lt_of_cell g0
  have p0 := bat hb1 LP p0
  have p1 := bat hb1 LP p1
  have LP := lt_of_cell p0
  have LST3 := hide hb1
  have SG3 := hide (below_trans SG2.out hb1)
  clear hb1
  cases sm
  · go_wp2_with fail
    refine (known_any _).mono ?_
    rintro e w4 ⟨rfl, hb4⟩
    have HC := hide (HC.out.below hb4)
    have HX := hide (HX.out.below hb4)
    have HR := hide (HR.out.below hb4)
    have HL := hide (HL.out.below hb4)
    have HP := hide (HP.out.below hb4)
    have g0 := bat hb4 LZ g0
    have g1 := bat hb4 LZ g1
    have g2 := bat hb4 LZ g2
    have LZ := lt_of_cell g0
    have p0 := bat hb4 LP p0
    have p1 := bat hb4 LP p1
    have LP := lt_of_cell p0
    have LST5 := hide hb4
    have SG5 := hide (below_trans SG3.out hb4)
    clear hb4
    go_wp2
    go_ret
    exact ⟨rfl, SG5.out⟩
  have hn3 : n3 ≤ 80 := by have := HSM.out; simp at this; omega
  go_wp2_with fail
  refine (within_any _ A2 n2 c2 rows HR.out 20).mono ?_
  rintro e w6 ⟨⟨r, rfl, hr⟩, hb6⟩
  have HC := hide (HC.out.below hb6)
  have HX := hide (HX.out.below hb6)
  have HR := hide (HR.out.below hb6)
  have HL := hide (HL.out.below hb6)
  have HP := hide (HP.out.below hb6)
  have g0 := bat hb6 LZ g0
  have g1 := bat hb6 LZ g1
  have g2 := bat hb6 LZ g2
  have LZ := lt_of_cell g0
  have p0 := bat hb6 LP p0
  have p1 := bat hb6 LP p1
  have LP := lt_of_cell p0
  have LST7 := hide hb6
  have SG7 := hide (below_trans SG3.out hb6)
  clear hb6
  cases r
  · go_wp2_with fail
    refine (known_any _).mono ?_
    rintro e w8 ⟨rfl, hb8⟩
    have HC := hide (HC.out.below hb8)
    have HX := hide (HX.out.below hb8)
    have HR := hide (HR.out.below hb8)
    have HL := hide (HL.out.below hb8)
    have HP := hide (HP.out.below hb8)
    have g0 := bat hb8 LZ g0
    have g1 := bat hb8 LZ g1
    have g2 := bat hb8 LZ g2
    have LZ := lt_of_cell g0
    have p0 := bat hb8 LP p0
    have p1 := bat hb8 LP p1
    have LP := lt_of_cell p0
    have LST9 := hide hb8
    have SG9 := hide (below_trans SG7.out hb8)
    clear hb8
    go_wp2
    go_ret
    exact ⟨rfl, SG9.out⟩
  go_wp2_with fail
  refine (within_any _ A6 n6 c6 part HP.out 20).mono ?_
  rintro e w10 ⟨⟨r2, rfl, hr2⟩, hb10⟩
  have HC := hide (HC.out.below hb10)
  have HX := hide (HX.out.below hb10)
  have HR := hide (HR.out.below hb10)
  have HL := hide (HL.out.below hb10)
  have HP := hide (HP.out.below hb10)
  have g0 := bat hb10 LZ g0
  have g1 := bat hb10 LZ g1
  have g2 := bat hb10 LZ g2
  have LZ := lt_of_cell g0
  have p0 := bat hb10 LP p0
  have p1 := bat hb10 LP p1
  have LP := lt_of_cell p0
  have LST11 := hide hb10
  have SG11 := hide (below_trans SG7.out hb10)
  clear hb10
  cases r2
  · go_wp2_with fail
    refine (known_any _).mono ?_
    rintro e w12 ⟨rfl, hb12⟩
    have HC := hide (HC.out.below hb12)
    have HX := hide (HX.out.below hb12)
    have HR := hide (HR.out.below hb12)
    have HL := hide (HL.out.below hb12)
    have HP := hide (HP.out.below hb12)
    have g0 := bat hb12 LZ g0
    have g1 := bat hb12 LZ g1
    have g2 := bat hb12 LZ g2
    have LZ := lt_of_cell g0
    have p0 := bat hb12 LP p0
    have p1 := bat hb12 LP p1
    have LP := lt_of_cell p0
    have LST13 := hide hb12
    have SG13 := hide (below_trans SG11.out hb12)
    clear hb12
    go_wp2
    go_ret
    exact ⟨rfl, SG13.out⟩
  go_wp2_with fail
  refine (replP_any _ _ _ _ cols HC.out col A n c z HX.out ho _ _ _ rows HR.out d _ _ _ part HP.out).mono ?_
  rintro e w14 ⟨⟨v1, rfl, ho1⟩, hb14⟩
  have HC := hide (HC.out.below hb14)
  have HX := hide (HX.out.below hb14)
  have HR := hide (HR.out.below hb14)
  have HL := hide (HL.out.below hb14)
  have HP := hide (HP.out.below hb14)
  have g0 := bat hb14 LZ g0
  have g1 := bat hb14 LZ g1
  have g2 := bat hb14 LZ g2
  have LZ := lt_of_cell g0
  have p0 := bat hb14 LP p0
  have p1 := bat hb14 LP p1
  have LP := lt_of_cell p0
  have LST15 := hide hb14
  have SG15 := hide (below_trans SG11.out hb14)
  clear hb14
  rw [HPK.out] at ho1 ⊢
  obtain ⟨Ad, cd, hvd, hind⟩ := ho1.inn
  subst hvd
  clear ho1
  have ID := hide hind
  clear hind
  go_wp2_with fail
  refine (replR_ref _ _ _ _ cols HC.out col A n c z HX.out ho _ _ _ rows HR.out d _ _ _ part HP.out).mono ?_
  rintro e w16 ⟨⟨v2, rfl, ho2⟩, hb16⟩
  have HC := hide (HC.out.below hb16)
  have HX := hide (HX.out.below hb16)
  have HR := hide (HR.out.below hb16)
  have HL := hide (HL.out.below hb16)
  have HP := hide (HP.out.below hb16)
  have ID := hide (ID.out.below hb16)
  have g0 := bat hb16 LZ g0
  have g1 := bat hb16 LZ g1
  have g2 := bat hb16 LZ g2
  have LZ := lt_of_cell g0
  have p0 := bat hb16 LP p0
  have p1 := bat hb16 LP p1
  have LP := lt_of_cell p0
  have LST17 := hide hb16
  have SG17 := hide (below_trans SG15.out hb16)
  clear hb16
  rw [HPK.out] at ho2 ⊢
  obtain ⟨Ae, ce, hve, hine⟩ := ho2.inn
  subst hve
  clear ho2 HPK
  have IE := hide hine
  clear hine
  obtain ⟨pe, pz⟩ := PK
  clear HC
  clear HX
  clear HR
  clear LZ g0 g1 g2
  clear LP p0 p1
  clear HP
  go_wp2_with fail
  refine (tableL_any _ A3 n3 c3 l HL.out hn3 nn zz).mono ?_
  rintro e w20 ⟨⟨gb, B3, m3, wc, Z, B4, m4, d4, B5, m5, d5, zs, j, rfl, hoc, hcm, hinZ, hmZ, hin, hto, hnum, hgb⟩, hb20⟩
  clear HL
  have HGB : Hid (w.heap.size ≤ gb) := hide (Nat.le_trans SG17.out.size hgb)
  have ID := hide (off_low ID.out hb20 hgb)
  have IE := hide (off_low IE.out hb20 hgb)
  have hb20' := below_trans SG17.out hb20
  clear hb20
  obtain ⟨hzZ, hoZ⟩ := wZones_ok Z hmZ
  have HTO := hide hto
  have HSC := hide (hto.scheme hcm hzZ)
  have HCM := hide hcm
  have hgb2 := hnum.lt
  have HZZ := hide hzZ
  clear hto hgb hzZ hmZ
  have HBA := hide hb20'
  clear hb20'
  have HC := hide hoc
  clear hoc
  have HX := hide hinZ
  clear hinZ
  have HR := hide hin
  clear hin
  have HN := hide hnum
  clear hnum
  go_upto_region 6 with (fail)
  obtain ⟨W7, hW7⟩ : ∃ W, W = w20.alloc (.cells #[.string Z.name, .int .i64 Z.offset, .slice B4 m4 d4] 25) := ⟨_, rfl⟩
  have z0 : W7.cell? ⟨w20.heap.size, 0, none⟩ = some (.string Z.name) := by rw [hW7]; simp [go_sem]
  have z1 : W7.cell? ⟨w20.heap.size, 1, none⟩ = some (.int .i64 Z.offset) := by rw [hW7]; simp [go_sem]
  have z2 : W7.cell? ⟨w20.heap.size, 2, none⟩ = some (.slice B4 m4 d4) := by rw [hW7]; simp [go_sem]
  have hbW7 : Below w20.heap.size w20 W7 := by rw [hW7]; exact below_alloc
  have SZW7 : Hid (W7.heap.size = w20.heap.size + 1) := hide (by rw [hW7]; exact World.size_alloc _ _)
  rw [← hW7]
  clear hW7
  have HC := hide (HC.out.below hbW7)
  have HX := hide (HX.out.below hbW7)
  have HR := hide (HR.out.below hbW7)
  have ID := hide (ID.out.below hbW7)
  have IE := hide (IE.out.below hbW7)
  have HN := hide (HN.out.below hbW7)
  have LST18 := hide hbW7
  have SG18 := hide hbW7
  clear hbW7
  have LZ := lt_of_cell z0
  have HGL : Hid (gb < w20.heap.size) := hide hgb2
  have Z0 := hide z0
  have Z1 := hide z1
  have Z2 := hide z2
  have HLZ := hide LZ
  go_region_held3 (fun V => V.cell? ⟨w20.heap.size, 0, none⟩ = some (.string Z.name) ∧ V.cell? ⟨w20.heap.size, 1, none⟩ = some (.int .i64 Z.offset) ∧ V.cell? ⟨w20.heap.size, 2, none⟩ = some (.slice B4 m4 d4))
    (first | exact ⟨bat HB9.out Y2.out Y0.out.1, bat HB9.out Y2.out Y0.out.2.1, bat HB9.out Y2.out Y0.out.2.2⟩ | exact Y0.out | exact ⟨z0, z1, z2⟩)
    (first
      | (go_at_call 22; refine (tableW_any _ gb A3 n3 c3 l j (by exact HN.out.below (Below.refl _ _).drew) _ m3 m3 wc (by exact HC.out.below (Below.refl _ _).drew) (wCols_good wc HCM.out).1 (by have := HC.out.inn.len; have := (wCols_good wc HCM.out).2; omega) 8 (by omega) (by omega)).mono ?_; rintro e w8 ⟨v8, xs8, zs8, q8, j8, rfl, hf8, hx8, hxl8, hno8, hn8, hg8⟩; obtain ⟨A8, c8, rfl, hin8⟩ := hf8.hi; have HG8 := hide (grown_below hg8 (Below.refl _ _)); have HI8 := hide hin8.inn; have HNB : Hid (some w20.heap.size ≠ some gb) := hide (fun e => by injection e with e; have := HGL.out; omega); have Y0 : Hid (w8.cell? ⟨w20.heap.size, 0, none⟩ = some (.string Z.name) ∧ w8.cell? ⟨w20.heap.size, 1, none⟩ = some (.int .i64 Z.offset) ∧ w8.cell? ⟨w20.heap.size, 2, none⟩ = some (.slice B4 m4 d4)) := hide ⟨hg8.cell (a := ⟨w20.heap.size, 0, none⟩) Z0.out HNB.out, hg8.cell (a := ⟨w20.heap.size, 1, none⟩) Z1.out HNB.out, hg8.cell (a := ⟨w20.heap.size, 2, none⟩) Z2.out HNB.out⟩; have Y2 : Hid (w20.heap.size < w8.heap.size) := hide (lt_of_cell Y0.out.1); have HTB8 : Hid (TabOf wc zs8) := hide ⟨xs8, q8, hx8, hxl8, hno8⟩; have HC8 := hide ((HC.out.below (Below.refl _ _).drew).grown hg8); have HX8 := hide ((HX.out.below (Below.refl _ _).drew).grown hg8); have HR8 := hide ((HR.out.below (Below.refl _ _).drew).grown hg8); have ID8 := hide ((ID.out.below (Below.refl _ _).drew).grown hg8); have IE8 := hide ((IE.out.below (Below.refl _ _).drew).grown hg8); have HBW8 := hide (below_of_grown (below_trans HBA.out SG18.out).drew hg8 (Nat.le_trans HBA.out.size SG18.out.size) HGB.out); have mkA : True := trivial; clear hf8 hin8 hn8 hg8 hx8 hxl8 hno8)
      | (clear mkA; go_at_call 13; refine (splitR_ref _ _ _ _ wc (by exact HC8.out.inn) ⟨#[97, 116]⟩ _ _ _ Z (by exact HX8.out.inn) hoZ _ _ _ zs8 (by exact HI8.out)).mono ?_; rintro e w9 ⟨⟨B7, m7, d7, ps, rfl, hps, hpz, hpo⟩, hb9⟩; have HPS := hide hps; have HML7' : Hid (m7 ≤ 1000) := hide (split_le HTB8.out HCM.out (HTB8.out.scheme HCM.out HZZ.out) hpo hps.len); have HB9 := hide hb9; clear hps hpz hpo hb9))
  have hb9 := HB9.out
  have HC := hide HC8.out
  have HX := hide HX8.out
  have HR := hide HR8.out
  have ID := hide ID8.out.inn
  have IE := hide IE8.out.inn
  obtain ⟨z0, z1, z2⟩ := Y0.out
  clear HN
  clear HC8 HX8 HR8 ID8 IE8 HG8 HNB HB9 Y0 Z0 Z1 Z2
  have LZ := lt_of_cell z0
  have HC := hide (HC.out.below hb9)
  have HX := hide (HX.out.below hb9)
  have HR := hide (HR.out.below hb9)
  have ID := hide (ID.out.below hb9)
  have IE := hide (IE.out.below hb9)
  have z0 := bat hb9 LZ z0
  have z1 := bat hb9 LZ z1
  have z2 := bat hb9 LZ z2
  have LZ := lt_of_cell z0
  have LST19 := hide hb9
  have SG19 := hide (below_trans HBW8.out hb9)
  clear hb9
  have hml := HPS.out.le
  have HML7 : Hid (m7 ≤ 1000) := hide HML7'.out
  go_wp2_with fail
  obtain ⟨W10, hW10⟩ : ∃ W, W = w9.alloc (.cells #[.int .i64 (-1), .int .i64 0, .int .i64 2, .int .i64 99, .int .i64 100, .int .i64 101, .int .i64 103] 3) := ⟨_, rfl⟩
  have i0 : W10.cell? ⟨w9.heap.size, 0, none⟩ = some (.int .i64 (-1)) := by rw [hW10]; simp [go_sem]
  have i1 : W10.cell? ⟨w9.heap.size, 1, none⟩ = some (.int .i64 0) := by rw [hW10]; simp [go_sem]
  have i2 : W10.cell? ⟨w9.heap.size, 2, none⟩ = some (.int .i64 2) := by rw [hW10]; simp [go_sem]
  have i3 : W10.cell? ⟨w9.heap.size, 3, none⟩ = some (.int .i64 99) := by rw [hW10]; simp [go_sem]
  have i4 : W10.cell? ⟨w9.heap.size, 4, none⟩ = some (.int .i64 100) := by rw [hW10]; simp [go_sem]
  have i5 : W10.cell? ⟨w9.heap.size, 5, none⟩ = some (.int .i64 101) := by rw [hW10]; simp [go_sem]
  have i6 : W10.cell? ⟨w9.heap.size, 6, none⟩ = some (.int .i64 103) := by rw [hW10]; simp [go_sem]
  have hbW10 : Below w9.heap.size w9 W10 := by rw [hW10]; exact below_alloc
  have SZW10 : Hid (W10.heap.size = w9.heap.size + 1) := hide (by rw [hW10]; exact World.size_alloc _ _)
  have FRW10 : Hid (∀ o, W10.frozen? ⟨w9.heap.size, o, none⟩ = false) := hide (fun o => by rw [hW10]; exact frozen_of_row _ _ o _ _ (heap_alloc_new _ _))
  rw [← hW10]
  clear hW10
  have RBW10 := hide hbW10
  clear hbW10
  refine (placeW_any by_ 7 (by omega) (by omega) _).mono ?_
  rintro e wp ⟨rfl, hwp⟩
  rw [hwp]
  clear hwp
  obtain ⟨iq, hiq⟩ : ∃ iq : Nat, by_ % 7 = (iq : Int) := ⟨(by_ % 7).toNat, by omega⟩
  have hi7 : iq < 7 := by omega
  obtain ⟨dd, hdd, hd64⟩ : ∃ dd, W10.cell? ⟨w9.heap.size, iq, none⟩ = some (.int .i64 dd) ∧ I64 dd := by
    have : iq = 0 ∨ iq = 1 ∨ iq = 2 ∨ iq = 3 ∨ iq = 4 ∨ iq = 5 ∨ iq = 6 := by omega
    rcases this with rfl | rfl | rfl | rfl | rfl | rfl | rfl
    · exact ⟨_, i0, by decide⟩
    · exact ⟨_, i1, by decide⟩
    · exact ⟨_, i2, by decide⟩
    · exact ⟨_, i3, by decide⟩
    · exact ⟨_, i4, by decide⟩
    · exact ⟨_, i5, by decide⟩
    · exact ⟨_, i6, by decide⟩
  rw [hiq]
  have j0 : (0 : Int) ≤ (iq : Int) := by omega
  have j1 : (iq : Int) < 7 := by omega
  clear i0 i1 i2 i3 i4 i5 i6 hiq
  go_upto_region 8 with (fail)
  obtain ⟨W11, hW11⟩ : ∃ W, W = W10.alloc (.cells #[.int .i64 dd, .slice none 0 0] 44) := ⟨_, rfl⟩
  have p0 : W11.cell? ⟨W10.heap.size, 0, none⟩ = some (.int .i64 dd) := by rw [hW11]; simp [go_sem]
  have p1 : W11.cell? ⟨W10.heap.size, 1, none⟩ = some (.slice none 0 0) := by rw [hW11]; simp [go_sem]
  have hbW11 : Below W10.heap.size W10 W11 := by rw [hW11]; exact below_alloc
  have SZW11 : Hid (W11.heap.size = W10.heap.size + 1) := hide (by rw [hW11]; exact World.size_alloc _ _)
  have FRW11 : Hid (∀ o, W11.frozen? ⟨W10.heap.size, o, none⟩ = false) := hide (fun o => by rw [hW11]; exact frozen_of_row _ _ o _ _ (heap_alloc_new _ _))
  rw [← hW11]
  clear hW11
  have RBW11 := hide hbW11
  clear hbW11
  have HFR : Hid (∀ o, W11.frozen? ⟨W10.heap.size, o, none⟩ = false) := hide FRW11.out
  have HB11 := hide (below_trans RBW10.out RBW11.out)
  have HS10 : Hid (w9.heap.size ≤ W10.heap.size) := hide RBW10.out.size
  clear hdd
  by_cases hm7 : 0 < m7
  · have q1 : (0 : Int) < (m7 : Int) := by omega
    obtain ⟨pb, hpb⟩ : ∃ pb, (by_.tmod 2 == 0) = pb := ⟨_, rfl⟩
    cases pb
    · go_upto_region 10 with (fail)
      have hb11 := HB11.out
      have HC := hide (HC.out.below hb11)
      have HX := hide (HX.out.below hb11)
      have HR := hide (HR.out.below hb11)
      have ID := hide (ID.out.below hb11)
      have IE := hide (IE.out.below hb11)
      have HPS := hide (HPS.out.below hb11)
      have z0 := bat hb11 LZ z0
      have z1 := bat hb11 LZ z1
      have z2 := bat hb11 LZ z2
      have LZ := lt_of_cell z0
      have LST20 := hide hb11
      have SG20 := hide (below_trans SG19.out hb11)
      clear hb11
      have LQ := lt_of_cell p0
      have HPR : Hid (In W11 none 0 0 ([] : List Ent)) := hide In.nil_
      obtain ⟨pr, hpr⟩ : ∃ pr : List Ent, pr = [] := ⟨_, rfl⟩
      rw [← hpr] at HPR
      clear hpr
      obtain ⟨RR, hRR⟩ : ∃ RR, replS wc ⟨#[97, 116]⟩ Z zs dd pr = RR := ⟨_, rfl⟩
      have HRR := hide hRR
      clear hRR
      go_wp2_with fail
      refine (replP_any _ _ _ _ wc HC.out.inn ⟨#[97, 116]⟩ _ _ _ Z HX.out.inn hoZ _ _ _ zs HR.out.inn dd _ _ _ pr HPR.out).mono ?_
      rintro e w21 ⟨⟨v3, rfl, ho3⟩, hb21⟩
      have HC := hide (HC.out.below hb21)
      have HX := hide (HX.out.below hb21)
      have HR := hide (HR.out.below hb21)
      have ID := hide (ID.out.below hb21)
      have IE := hide (IE.out.below hb21)
      have HPS := hide (HPS.out.below hb21)
      have HPR := hide (HPR.out.below hb21)
      have z0 := bat hb21 LZ z0
      have z1 := bat hb21 LZ z1
      have z2 := bat hb21 LZ z2
      have LZ := lt_of_cell z0
      have p0 := bat hb21 LQ p0
      have p1 := bat hb21 LQ p1
      have LQ := lt_of_cell p0
      have LST22 := hide hb21
      have SG22 := hide (below_trans SG20.out hb21)
      clear hb21
      rw [HRR.out] at ho3 ⊢
      obtain ⟨Aa, ca, hva, hina⟩ := ho3.inn
      subst hva
      clear ho3
      have IA := hide hina
      clear hina
      go_wp2_with fail
      refine (replR_ref _ _ _ _ wc HC.out.inn ⟨#[97, 116]⟩ _ _ _ Z HX.out.inn hoZ _ _ _ zs HR.out.inn dd _ _ _ pr HPR.out).mono ?_
      rintro e w23 ⟨⟨v4, rfl, ho4⟩, hb23⟩
      have HC := hide (HC.out.below hb23)
      have HX := hide (HX.out.below hb23)
      have HR := hide (HR.out.below hb23)
      have ID := hide (ID.out.below hb23)
      have IE := hide (IE.out.below hb23)
      have HPS := hide (HPS.out.below hb23)
      have HPR := hide (HPR.out.below hb23)
      have IA := hide (IA.out.below hb23)
      have z0 := bat hb23 LZ z0
      have z1 := bat hb23 LZ z1
      have z2 := bat hb23 LZ z2
      have LZ := lt_of_cell z0
      have p0 := bat hb23 LQ p0
      have p1 := bat hb23 LQ p1
      have LQ := lt_of_cell p0
      have LST24 := hide hb23
      have SG24 := hide (below_trans SG22.out hb23)
      clear hb23
      rw [HRR.out] at ho4 ⊢
      obtain ⟨Ab, cb, hvb, hinb⟩ := ho4.inn
      subst hvb
      clear ho4 HRR
      have IB := hide hinb
      clear hinb
      obtain ⟨re, rz⟩ := RR
      go_wp2_with fail
      refine (sameEnts_any _ _ _ _ _ _ _ pz pz ID.out IE.out).mono ?_
      rintro e w25 ⟨⟨r1, rfl, hq1⟩, hb25⟩
      have HC := hide (HC.out.below hb25)
      have HX := hide (HX.out.below hb25)
      have HR := hide (HR.out.below hb25)
      have ID := hide (ID.out.below hb25)
      have IE := hide (IE.out.below hb25)
      have HPS := hide (HPS.out.below hb25)
      have HPR := hide (HPR.out.below hb25)
      have IA := hide (IA.out.below hb25)
      have IB := hide (IB.out.below hb25)
      have z0 := bat hb25 LZ z0
      have z1 := bat hb25 LZ z1
      have z2 := bat hb25 LZ z2
      have LZ := lt_of_cell z0
      have p0 := bat hb25 LQ p0
      have p1 := bat hb25 LQ p1
      have LQ := lt_of_cell p0
      have LST26 := hide hb25
      have SG26 := hide (below_trans SG24.out hb25)
      clear hb25
      obtain rfl := hq1.2 rfl
      clear hq1
      go_wp2_with fail
      refine (sameEnts_any _ _ _ _ _ _ _ rz rz IA.out IB.out).mono ?_
      rintro e w27 ⟨⟨r2, rfl, hq2⟩, hb27⟩
      have HC := hide (HC.out.below hb27)
      have HX := hide (HX.out.below hb27)
      have HR := hide (HR.out.below hb27)
      have ID := hide (ID.out.below hb27)
      have IE := hide (IE.out.below hb27)
      have HPS := hide (HPS.out.below hb27)
      have HPR := hide (HPR.out.below hb27)
      have IA := hide (IA.out.below hb27)
      have IB := hide (IB.out.below hb27)
      have z0 := bat hb27 LZ z0
      have z1 := bat hb27 LZ z1
      have z2 := bat hb27 LZ z2
      have LZ := lt_of_cell z0
      have p0 := bat hb27 LQ p0
      have p1 := bat hb27 LQ p1
      have LQ := lt_of_cell p0
      have LST28 := hide hb27
      have SG28 := hide (below_trans SG26.out hb27)
      clear hb27
      obtain rfl := hq2.2 rfl
      clear hq2
      go_wp2_with fail
      refine (known_any _).mono ?_
      rintro e w29 ⟨rfl, hb29⟩
      have HC := hide (HC.out.below hb29)
      have HX := hide (HX.out.below hb29)
      have HR := hide (HR.out.below hb29)
      have ID := hide (ID.out.below hb29)
      have IE := hide (IE.out.below hb29)
      have HPS := hide (HPS.out.below hb29)
      have HPR := hide (HPR.out.below hb29)
      have IA := hide (IA.out.below hb29)
      have IB := hide (IB.out.below hb29)
      have z0 := bat hb29 LZ z0
      have z1 := bat hb29 LZ z1
      have z2 := bat hb29 LZ z2
      have LZ := lt_of_cell z0
      have p0 := bat hb29 LQ p0
      have p1 := bat hb29 LQ p1
      have LQ := lt_of_cell p0
      have LST30 := hide hb29
      have SG30 := hide (below_trans SG28.out hb29)
      clear hb29
      go_wp2
      go_ret
      exact ⟨rfl, SG30.out⟩
    · have hw2 : IntKind.i64.wrap (by_.tdiv 2) = by_.tdiv 2 := IntWalk.i64_in _ (tdiv2_bd hby)
      go_wp2_with fail
      refine (placeW_any (by_.tdiv 2) m7 (by omega) (by have := HML7.out; omega) _).mono ?_
      rintro e wp ⟨rfl, hwp⟩
      rw [hwp]
      clear hwp
      obtain ⟨iq2, hiq2⟩ : ∃ iq : Nat, by_.tdiv 2 % (m7 : Int) = (iq : Int) := ⟨(by_.tdiv 2 % (m7 : Int)).toNat, by have := Int.emod_nonneg (by_.tdiv 2) (b := (m7 : Int)) (by omega); omega⟩
      have hi8 : iq2 < m7 := by have := Int.emod_lt_of_pos (by_.tdiv 2) (b := (m7 : Int)) (by omega); omega
      rw [hiq2]
      obtain ⟨b, off, p, rfl, hBb, HXp, Ap, np, cp, e0, e1, e2, e3⟩ := HPS.out.part hi8
      have k0 : (0 : Int) ≤ (iq2 : Int) := by omega
      have k1 : (iq2 : Int) < (m7 : Int) := by omega
      replace e0 := bat HB11.out hBb e0
      replace e1 := bat HB11.out hBb e1
      have HPR := hide e2
      have FR0 : W11.frozen? ⟨W10.heap.size, 0, none⟩ = false := HFR.out 0
      have FR1 : W11.frozen? ⟨W10.heap.size, 1, none⟩ = false := HFR.out 1
      clear e2 hiq2 hw2
      go_upto_region 10 with (fail)
      obtain ⟨W12, hW12⟩ : ∃ W, W = (W11.setCell ⟨W10.heap.size, 0, none⟩ (.int .i64 p.day)).setCell ⟨W10.heap.size, 1, none⟩ (.slice Ap np cp) := ⟨_, rfl⟩
      have y0 : W12.cell? ⟨W10.heap.size, 0, none⟩ = some (.int .i64 p.day) := by rw [hW12]; exact set_far (set_same p0) (.inr (by omega))
      have y1 : W12.cell? ⟨W10.heap.size, 1, none⟩ = some (.slice Ap np cp) := by rw [hW12]; exact set_same (set_far p1 (.inr (by omega)))
      have hb12 : Below w9.heap.size w9 W12 := by rw [hW12]; exact (HB11.out.setCell HS10.out _).setCell HS10.out _
      rw [← hW12]
      clear hW12 p0 p1 e0 e1 FR0 FR1
      have HC := hide (HC.out.below hb12)
      have HX := hide (HX.out.below hb12)
      have HR := hide (HR.out.below hb12)
      have ID := hide (ID.out.below hb12)
      have IE := hide (IE.out.below hb12)
      have HPS := hide (HPS.out.below hb12)
      have HPR := hide (HPR.out.below hb12)
      have z0 := bat hb12 LZ z0
      have z1 := bat hb12 LZ z1
      have z2 := bat hb12 LZ z2
      have LZ := lt_of_cell z0
      have LST31 := hide hb12
      have SG31 := hide (below_trans SG19.out hb12)
      clear hb12
      have LQ := lt_of_cell y0
      obtain ⟨dd, pr⟩ := p
      obtain ⟨RR, hRR⟩ : ∃ RR, replS wc ⟨#[97, 116]⟩ Z zs dd pr = RR := ⟨_, rfl⟩
      have HRR := hide hRR
      clear hRR
      go_wp2_with fail
      refine (replP_any _ _ _ _ wc HC.out.inn ⟨#[97, 116]⟩ _ _ _ Z HX.out.inn hoZ _ _ _ zs HR.out.inn dd _ _ _ pr HPR.out).mono ?_
      rintro e w32 ⟨⟨v3, rfl, ho3⟩, hb32⟩
      have HC := hide (HC.out.below hb32)
      have HX := hide (HX.out.below hb32)
      have HR := hide (HR.out.below hb32)
      have ID := hide (ID.out.below hb32)
      have IE := hide (IE.out.below hb32)
      have HPS := hide (HPS.out.below hb32)
      have HPR := hide (HPR.out.below hb32)
      have z0 := bat hb32 LZ z0
      have z1 := bat hb32 LZ z1
      have z2 := bat hb32 LZ z2
      have LZ := lt_of_cell z0
      have y0 := bat hb32 LQ y0
      have y1 := bat hb32 LQ y1
      have LQ := lt_of_cell y0
      have LST33 := hide hb32
      have SG33 := hide (below_trans SG31.out hb32)
      clear hb32
      rw [HRR.out] at ho3 ⊢
      obtain ⟨Aa, ca, hva, hina⟩ := ho3.inn
      subst hva
      clear ho3
      have IA := hide hina
      clear hina
      go_wp2_with fail
      refine (replR_ref _ _ _ _ wc HC.out.inn ⟨#[97, 116]⟩ _ _ _ Z HX.out.inn hoZ _ _ _ zs HR.out.inn dd _ _ _ pr HPR.out).mono ?_
      rintro e w34 ⟨⟨v4, rfl, ho4⟩, hb34⟩
      have HC := hide (HC.out.below hb34)
      have HX := hide (HX.out.below hb34)
      have HR := hide (HR.out.below hb34)
      have ID := hide (ID.out.below hb34)
      have IE := hide (IE.out.below hb34)
      have HPS := hide (HPS.out.below hb34)
      have HPR := hide (HPR.out.below hb34)
      have IA := hide (IA.out.below hb34)
      have z0 := bat hb34 LZ z0
      have z1 := bat hb34 LZ z1
      have z2 := bat hb34 LZ z2
      have LZ := lt_of_cell z0
      have y0 := bat hb34 LQ y0
      have y1 := bat hb34 LQ y1
      have LQ := lt_of_cell y0
      have LST35 := hide hb34
      have SG35 := hide (below_trans SG33.out hb34)
      clear hb34
      rw [HRR.out] at ho4 ⊢
      obtain ⟨Ab, cb, hvb, hinb⟩ := ho4.inn
      subst hvb
      clear ho4 HRR
      have IB := hide hinb
      clear hinb
      obtain ⟨re, rz⟩ := RR
      go_wp2_with fail
      refine (sameEnts_any _ _ _ _ _ _ _ pz pz ID.out IE.out).mono ?_
      rintro e w36 ⟨⟨r1, rfl, hq1⟩, hb36⟩
      have HC := hide (HC.out.below hb36)
      have HX := hide (HX.out.below hb36)
      have HR := hide (HR.out.below hb36)
      have ID := hide (ID.out.below hb36)
      have IE := hide (IE.out.below hb36)
      have HPS := hide (HPS.out.below hb36)
      have HPR := hide (HPR.out.below hb36)
      have IA := hide (IA.out.below hb36)
      have IB := hide (IB.out.below hb36)
      have z0 := bat hb36 LZ z0
      have z1 := bat hb36 LZ z1
      have z2 := bat hb36 LZ z2
      have LZ := lt_of_cell z0
      have y0 := bat hb36 LQ y0
      have y1 := bat hb36 LQ y1
      have LQ := lt_of_cell y0
      have LST37 := hide hb36
      have SG37 := hide (below_trans SG35.out hb36)
      clear hb36
      obtain rfl := hq1.2 rfl
      clear hq1
      go_wp2_with fail
      refine (sameEnts_any _ _ _ _ _ _ _ rz rz IA.out IB.out).mono ?_
      rintro e w38 ⟨⟨r2, rfl, hq2⟩, hb38⟩
      have HC := hide (HC.out.below hb38)
      have HX := hide (HX.out.below hb38)
      have HR := hide (HR.out.below hb38)
      have ID := hide (ID.out.below hb38)
      have IE := hide (IE.out.below hb38)
      have HPS := hide (HPS.out.below hb38)
      have HPR := hide (HPR.out.below hb38)
      have IA := hide (IA.out.below hb38)
      have IB := hide (IB.out.below hb38)
      have z0 := bat hb38 LZ z0
      have z1 := bat hb38 LZ z1
      have z2 := bat hb38 LZ z2
      have LZ := lt_of_cell z0
      have y0 := bat hb38 LQ y0
      have y1 := bat hb38 LQ y1
      have LQ := lt_of_cell y0
      have LST39 := hide hb38
      have SG39 := hide (below_trans SG37.out hb38)
      clear hb38
      obtain rfl := hq2.2 rfl
      clear hq2
      go_wp2_with fail
      refine (known_any _).mono ?_
      rintro e w40 ⟨rfl, hb40⟩
      have HC := hide (HC.out.below hb40)
      have HX := hide (HX.out.below hb40)
      have HR := hide (HR.out.below hb40)
      have ID := hide (ID.out.below hb40)
      have IE := hide (IE.out.below hb40)
      have HPS := hide (HPS.out.below hb40)
      have HPR := hide (HPR.out.below hb40)
      have IA := hide (IA.out.below hb40)
      have IB := hide (IB.out.below hb40)
      have z0 := bat hb40 LZ z0
      have z1 := bat hb40 LZ z1
      have z2 := bat hb40 LZ z2
      have LZ := lt_of_cell z0
      have y0 := bat hb40 LQ y0
      have y1 := bat hb40 LQ y1
      have LQ := lt_of_cell y0
      have LST41 := hide hb40
      have SG41 := hide (below_trans SG39.out hb40)
      clear hb40
      go_wp2
      go_ret
      exact ⟨rfl, SG41.out⟩
  · have hm0 : m7 = 0 := by omega
    have q1 : ¬ (0 : Int) < (m7 : Int) := by omega
    go_upto_region 10 with (fail)
    have hb11 := HB11.out
    have HC := hide (HC.out.below hb11)
    have HX := hide (HX.out.below hb11)
    have HR := hide (HR.out.below hb11)
    have ID := hide (ID.out.below hb11)
    have IE := hide (IE.out.below hb11)
    have HPS := hide (HPS.out.below hb11)
    have z0 := bat hb11 LZ z0
    have z1 := bat hb11 LZ z1
    have z2 := bat hb11 LZ z2
    have LZ := lt_of_cell z0
    have LST42 := hide hb11
    have SG42 := hide (below_trans SG19.out hb11)
    clear hb11
    have LQ := lt_of_cell p0
    have HPR : Hid (In W11 none 0 0 ([] : List Ent)) := hide In.nil_
    obtain ⟨pr, hpr⟩ : ∃ pr : List Ent, pr = [] := ⟨_, rfl⟩
    rw [← hpr] at HPR
    clear hpr
    obtain ⟨RR, hRR⟩ : ∃ RR, replS wc ⟨#[97, 116]⟩ Z zs dd pr = RR := ⟨_, rfl⟩
    have HRR := hide hRR
    clear hRR
    go_wp2_with fail
    refine (replP_any _ _ _ _ wc HC.out.inn ⟨#[97, 116]⟩ _ _ _ Z HX.out.inn hoZ _ _ _ zs HR.out.inn dd _ _ _ pr HPR.out).mono ?_
    rintro e w43 ⟨⟨v3, rfl, ho3⟩, hb43⟩
    have HC := hide (HC.out.below hb43)
    have HX := hide (HX.out.below hb43)
    have HR := hide (HR.out.below hb43)
    have ID := hide (ID.out.below hb43)
    have IE := hide (IE.out.below hb43)
    have HPS := hide (HPS.out.below hb43)
    have HPR := hide (HPR.out.below hb43)
    have z0 := bat hb43 LZ z0
    have z1 := bat hb43 LZ z1
    have z2 := bat hb43 LZ z2
    have LZ := lt_of_cell z0
    have p0 := bat hb43 LQ p0
    have p1 := bat hb43 LQ p1
    have LQ := lt_of_cell p0
    have LST44 := hide hb43
    have SG44 := hide (below_trans SG42.out hb43)
    clear hb43
    rw [HRR.out] at ho3 ⊢
    obtain ⟨Aa, ca, hva, hina⟩ := ho3.inn
    subst hva
    clear ho3
    have IA := hide hina
    clear hina
    go_wp2_with fail
    refine (replR_ref _ _ _ _ wc HC.out.inn ⟨#[97, 116]⟩ _ _ _ Z HX.out.inn hoZ _ _ _ zs HR.out.inn dd _ _ _ pr HPR.out).mono ?_
    rintro e w45 ⟨⟨v4, rfl, ho4⟩, hb45⟩
    have HC := hide (HC.out.below hb45)
    have HX := hide (HX.out.below hb45)
    have HR := hide (HR.out.below hb45)
    have ID := hide (ID.out.below hb45)
    have IE := hide (IE.out.below hb45)
    have HPS := hide (HPS.out.below hb45)
    have HPR := hide (HPR.out.below hb45)
    have IA := hide (IA.out.below hb45)
    have z0 := bat hb45 LZ z0
    have z1 := bat hb45 LZ z1
    have z2 := bat hb45 LZ z2
    have LZ := lt_of_cell z0
    have p0 := bat hb45 LQ p0
    have p1 := bat hb45 LQ p1
    have LQ := lt_of_cell p0
    have LST46 := hide hb45
    have SG46 := hide (below_trans SG44.out hb45)
    clear hb45
    rw [HRR.out] at ho4 ⊢
    obtain ⟨Ab, cb, hvb, hinb⟩ := ho4.inn
    subst hvb
    clear ho4 HRR
    have IB := hide hinb
    clear hinb
    obtain ⟨re, rz⟩ := RR
    go_wp2_with fail
    refine (sameEnts_any _ _ _ _ _ _ _ pz pz ID.out IE.out).mono ?_
    rintro e w47 ⟨⟨r1, rfl, hq1⟩, hb47⟩
    have HC := hide (HC.out.below hb47)
    have HX := hide (HX.out.below hb47)
    have HR := hide (HR.out.below hb47)
    have ID := hide (ID.out.below hb47)
    have IE := hide (IE.out.below hb47)
    have HPS := hide (HPS.out.below hb47)
    have HPR := hide (HPR.out.below hb47)
    have IA := hide (IA.out.below hb47)
    have IB := hide (IB.out.below hb47)
    have z0 := bat hb47 LZ z0
    have z1 := bat hb47 LZ z1
    have z2 := bat hb47 LZ z2
    have LZ := lt_of_cell z0
    have p0 := bat hb47 LQ p0
    have p1 := bat hb47 LQ p1
    have LQ := lt_of_cell p0
    have LST48 := hide hb47
    have SG48 := hide (below_trans SG46.out hb47)
    clear hb47
    obtain rfl := hq1.2 rfl
    clear hq1
    go_wp2_with fail
    refine (sameEnts_any _ _ _ _ _ _ _ rz rz IA.out IB.out).mono ?_
    rintro e w49 ⟨⟨r2, rfl, hq2⟩, hb49⟩
    have HC := hide (HC.out.below hb49)
    have HX := hide (HX.out.below hb49)
    have HR := hide (HR.out.below hb49)
    have ID := hide (ID.out.below hb49)
    have IE := hide (IE.out.below hb49)
    have HPS := hide (HPS.out.below hb49)
    have HPR := hide (HPR.out.below hb49)
    have IA := hide (IA.out.below hb49)
    have IB := hide (IB.out.below hb49)
    have z0 := bat hb49 LZ z0
    have z1 := bat hb49 LZ z1
    have z2 := bat hb49 LZ z2
    have LZ := lt_of_cell z0
    have p0 := bat hb49 LQ p0
    have p1 := bat hb49 LQ p1
    have LQ := lt_of_cell p0
    have LST50 := hide hb49
    have SG50 := hide (below_trans SG48.out hb49)
    clear hb49
    obtain rfl := hq2.2 rfl
    clear hq2
    go_wp2_with fail
    refine (known_any _).mono ?_
    rintro e w51 ⟨rfl, hb51⟩
    have HC := hide (HC.out.below hb51)
    have HX := hide (HX.out.below hb51)
    have HR := hide (HR.out.below hb51)
    have ID := hide (ID.out.below hb51)
    have IE := hide (IE.out.below hb51)
    have HPS := hide (HPS.out.below hb51)
    have HPR := hide (HPR.out.below hb51)
    have IA := hide (IA.out.below hb51)
    have IB := hide (IB.out.below hb51)
    have z0 := bat hb51 LZ z0
    have z1 := bat hb51 LZ z1
    have z2 := bat hb51 LZ z2
    have LZ := lt_of_cell z0
    have p0 := bat hb51 LQ p0
    have p1 := bat hb51 LQ p1
    have LQ := lt_of_cell p0
    have LST52 := hide hb51
    have SG52 := hide (below_trans SG50.out hb51)
    clear hb51
    go_wp2
    go_ret
    exact ⟨rfl, SG52.out⟩
theorem lawRe_mn (w : World) (A1 : Option Addr) (n1 c1 : Nat) (cols : List Col) (hc : In w A1 n1 c1 cols) (col : ByteArray) (A : Option Addr) (n c : Nat) (z : Zone) (hx : In w A n c z.shifts) (ho : I64 z.offset) (A2 : Option Addr) (n2 c2 : Nat) (rows : List Ent) (hr : In w A2 n2 c2 rows) (A6 : Option Addr) (n6 c6 : Nat) (pp : Partn) (hp : In w A6 n6 c6 pp.rows) (hpd : I64 pp.day) (nn zz : Int) (A3 : Option Addr) (n3 c3 : Nat) (l : List Int) (hl : In w A3 n3 c3 l) (by_ : Int) (hby : I64 by_) :
    Calls Tryz.prog 5 #[.slice A1 n1 c1, .string col, .agg #[.string z.name, .int .i64 z.offset, .slice A n c], .slice A2 n2 c2, .agg #[.int .i64 pp.day, .slice A6 n6 c6], .int .i64 nn, .int .i64 zz, .slice A3 n3 c3, .int .i64 by_] w
      fun e w' => e = .returned (.bool true) ∧ Below w.heap.size w w' :=
  lawRe_any w A1 n1 c1 cols hc col A n c z hx ho A2 n2 c2 rows hr pp.day A6 n6 c6 pp.rows hp nn zz A3 n3 c3 l hl by_ hby
end Go.Proofs.YtlbhnfnecfllkaaGreat
