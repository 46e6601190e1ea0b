/-
  warehouselaw22.PartitionPick. (Printed by gen_lwk.py.)
-/
import Derived.Test.YtlbhnfnecfllkaaGreatKno
import Derived.Test.YtlbhnfnecfllkaaGreatDayR
import Derived.Test.YtlbhnfnecfllkaaGreatTabP
import Derived.Test.YtlbhnfnecfllkaaGreatSame
import Derived.Test.YtlbhnfnecfllkaaGreatGac
import Derived.Test.YtlbhnfnecfllkaaGreatRepl
namespace Go.Proofs.YtlbhnfnecfllkaaGreat
open Go.RowKit
set_option linter.unusedSimpArgs false
set_option linter.unusedVariables false

theorem elem_ints : Elem Tryz.prog 27 3 1 8 := elem_mk _ Tryz.underlying27 int_infoB rfl (by decide)
/-- Days told apart: where the loop stands. -/
def TwoSets (ks : List Int) (k : Nat) (ins outs : List Int) : Prop := (∀ d, (d ∈ ins ∨ d ∈ outs) ↔ d ∈ ks.take k) ∧ (∀ d ∈ ins, d ∉ outs) ∧ ins.length ≤ k ∧ outs.length ≤ k
theorem TwoSets.start (ks : List Int) : TwoSets ks 0 [] [] := ⟨by simp, by simp, by simp, by simp⟩
theorem asc_new {ks l : List Int} {k : Nat} {d : Int} (ha : Asc ks) (h : ks.drop k = d :: l) : d ∉ ks.take k := fun q => by
  have h1 := ha
  rw [← List.take_append_drop k ks, h] at h1
  have := (List.pairwise_append.1 h1).2.2 d q d (by simp)
  omega
theorem TwoSets.left {ks ins outs l : List Int} {k : Nat} {d : Int} (h : TwoSets ks k ins outs) (ha : Asc ks) (hd : ks.drop k = d :: l) : TwoSets ks (k + 1) (ins ++ [d]) outs := by
  obtain ⟨h1, h2, h3, h4⟩ := h
  have hn := asc_new ha hd
  refine ⟨fun x => ?_, fun x hx hy => ?_, by simp; omega, by omega⟩
  · rw [take_snoc hd]
    simp only [List.mem_append, List.mem_singleton, ← h1]
    constructor
    · rintro ((a | b) | c)
      · exact .inl (.inl a)
      · exact .inr b
      · exact .inl (.inr c)
    · rintro ((a | b) | c)
      · exact .inl (.inl a)
      · exact .inr b
      · exact .inl (.inr c)
  · rcases List.mem_append.1 hx with hx | hx
    · exact h2 x hx hy
    · simp at hx; subst hx; exact hn ((h1 _).1 (.inr hy))
theorem TwoSets.right {ks ins outs l : List Int} {k : Nat} {d : Int} (h : TwoSets ks k ins outs) (ha : Asc ks) (hd : ks.drop k = d :: l) : TwoSets ks (k + 1) ins (outs ++ [d]) := by
  obtain ⟨h1, h2, h3, h4⟩ := h
  have hn := asc_new ha hd
  refine ⟨fun x => ?_, fun x hx hy => ?_, by omega, by simp; omega⟩
  · rw [take_snoc hd]
    simp only [List.mem_append, List.mem_singleton, ← h1]
    constructor
    · rintro (a | (b | c))
      · exact .inl (.inl a)
      · exact .inl (.inr b)
      · exact .inr c
    · rintro ((a | b) | c)
      · exact .inl a
      · exact .inr (.inl b)
      · exact .inr (.inr c)
  · rcases List.mem_append.1 hy with hy | hy
    · exact h2 x hx hy
    · simp at hy; subst hy; exact hn ((h1 _).1 (.inl hx))
theorem split_days {at_ : Int} {z : Zone} {rows : List Ent} {ps : List Partn} (h : IsSplit at_ z rows ps) : Asc (ps.map Partn.day) ∧ ∀ d, d ∈ ps.map Partn.day ↔ d ∈ daysR at_ z rows := by
  obtain ⟨ks, h1, h2, rfl⟩ := h
  have e : ((ks.map fun d => (⟨d, ofDay at_ z rows d⟩ : Partn)).map Partn.day) = ks := by simp [List.map_map, Function.comp_def]
  rw [e]; exact ⟨h1, h2⟩
set_option maxHeartbeats 8000000 in
set_option maxRecDepth 100000 in
theorem lawPk_any (w : World) (A1 : Option Addr) (n1 c1 : Nat) (cols : List Col) (hc : In w A1 n1 c1 cols) (col : ByteArray) (A : Option Addr) (n c : Nat) (z : Zone) (hx : In w A n c z.shifts) (ho : I64 z.offset) (A2 : Option Addr) (n2 c2 : Nat) (rows : List Ent) (hr : In w A2 n2 c2 rows) (A6 : Option Addr) (n6 c6 : Nat) (days : List Int) (hd : In w A6 n6 c6 days) (nn zz : Int) (A3 : Option Addr) (n3 c3 : Nat) (l : List Int) (hl : In w A3 n3 c3 l) :
    Calls Tryz.prog 4 #[.slice A1 n1 c1, .string col, .agg #[.string z.name, .int .i64 z.offset, .slice A n c], .slice A2 n2 c2, .slice A6 n6 c6, .int .i64 nn, .int .i64 zz, .slice A3 n3 c3] w
      fun e w' => e = .returned (.bool true) ∧ Below w.heap.size w w' := by
  have h1 := hc.le
  have h3 := hl.le
  have h4 := hx.le
  obtain ⟨sm, hsm⟩ : ∃ sm, (decide (n1 ≤ 16) && decide (n ≤ 70) && decide (n3 ≤ 80)) = sm := ⟨_, rfl⟩
  have HSM := hide hsm
  clear hsm
  have h63 := hd.le
  obtain ⟨PK, hPK⟩ : ∃ PK, pickS cols col z rows days = PK := ⟨_, rfl⟩
  have HPK := hide hPK
  clear hPK
  go_enter Tryz.func4, Tryz.ntmps4
  go_wp2_with fail
  refine (small_law _ A1 A A3 n1 c1 n c n3 c3 z.name z.offset h1 h4 h3).mono ?_
  rintro e w1 ⟨rfl, hb1⟩
  rw [HSM.out]
  have hbb := below_trans below_alloc hb1
  have g0 := bat (b := w.heap.size) (o := 0) (v := .string z.name) hb1 (by simp) (by simp [go_sem])
  have g1 := bat (b := w.heap.size) (o := 1) (v := .int .i64 z.offset) hb1 (by simp) (by simp [go_sem])
  have g2 := bat (b := w.heap.size) (o := 2) (v := .slice A n c) hb1 (by simp) (by simp [go_sem])
  clear hb1 h1 h3 h4
  have HC := hide hc
  clear hc
  have HX := hide hx
  clear hx
  have HR := hide hr
  clear hr
  have HL := hide hl
  clear hl
  have HD := hide hd
  clear hd
  have HC := hide (HC.out.below hbb)
  have HX := hide (HX.out.below hbb)
  have HR := hide (HR.out.below hbb)
  have HL := hide (HL.out.below hbb)
  have HD := hide (HD.out.below hbb)
  have LST1 := hide hbb
  have SG1 := hide hbb
  clear hbb
  have LZ := lt_of_cell g0
  cases sm
  · go_wp2_with fail
    refine (known_any _).mono ?_
    rintro e w2 ⟨rfl, hb2⟩
    have HC := hide (HC.out.below hb2)
    have HX := hide (HX.out.below hb2)
    have HR := hide (HR.out.below hb2)
    have HL := hide (HL.out.below hb2)
    have HD := hide (HD.out.below hb2)
    have g0 := bat hb2 LZ g0
    have g1 := bat hb2 LZ g1
    have g2 := bat hb2 LZ g2
    have LZ := lt_of_cell g0
    have LST3 := hide hb2
    have SG3 := hide (below_trans SG1.out hb2)
    clear hb2
    go_wp2
    go_ret
    exact ⟨rfl, SG3.out⟩
  have hn3 : n3 ≤ 80 := by have := HSM.out; simp at this; omega
  go_wp2_with fail
  refine (within_any _ A2 n2 c2 rows HR.out 20).mono ?_
  rintro e w4 ⟨⟨r, rfl, hr⟩, hb4⟩
  have HC := hide (HC.out.below hb4)
  have HX := hide (HX.out.below hb4)
  have HR := hide (HR.out.below hb4)
  have HL := hide (HL.out.below hb4)
  have HD := hide (HD.out.below hb4)
  have g0 := bat hb4 LZ g0
  have g1 := bat hb4 LZ g1
  have g2 := bat hb4 LZ g2
  have LZ := lt_of_cell g0
  have LST5 := hide hb4
  have SG5 := hide (below_trans SG1.out hb4)
  clear hb4
  cases r
  · go_wp2_with fail
    refine (known_any _).mono ?_
    rintro e w6 ⟨rfl, hb6⟩
    have HC := hide (HC.out.below hb6)
    have HX := hide (HX.out.below hb6)
    have HR := hide (HR.out.below hb6)
    have HL := hide (HL.out.below hb6)
    have HD := hide (HD.out.below hb6)
    have g0 := bat hb6 LZ g0
    have g1 := bat hb6 LZ g1
    have g2 := bat hb6 LZ g2
    have LZ := lt_of_cell g0
    have LST7 := hide hb6
    have SG7 := hide (below_trans SG5.out hb6)
    clear hb6
    go_wp2
    go_ret
    exact ⟨rfl, SG7.out⟩
  by_cases hd40 : (40 : Int) < (n6 : Int)
  · go_wp2_with fail
    refine (known_any _).mono ?_
    rintro e w8 ⟨rfl, hb8⟩
    have HC := hide (HC.out.below hb8)
    have HX := hide (HX.out.below hb8)
    have HR := hide (HR.out.below hb8)
    have HL := hide (HL.out.below hb8)
    have HD := hide (HD.out.below hb8)
    have g0 := bat hb8 LZ g0
    have g1 := bat hb8 LZ g1
    have g2 := bat hb8 LZ g2
    have LZ := lt_of_cell g0
    have LST9 := hide hb8
    have SG9 := hide (below_trans SG5.out hb8)
    clear hb8
    go_wp2
    go_ret
    exact ⟨rfl, SG9.out⟩
  go_wp2_with fail
  refine (pickP_any _ _ _ _ cols HC.out col A n c z HX.out ho _ _ _ rows HR.out _ _ _ days HD.out).mono ?_
  rintro e w10 ⟨⟨v1, rfl, ho1⟩, hb10⟩
  have HC := hide (HC.out.below hb10)
  have HX := hide (HX.out.below hb10)
  have HR := hide (HR.out.below hb10)
  have HL := hide (HL.out.below hb10)
  have HD := hide (HD.out.below hb10)
  have g0 := bat hb10 LZ g0
  have g1 := bat hb10 LZ g1
  have g2 := bat hb10 LZ g2
  have LZ := lt_of_cell g0
  have LST11 := hide hb10
  have SG11 := hide (below_trans SG5.out hb10)
  clear hb10
  rw [HPK.out] at ho1 ⊢
  obtain ⟨Aa, ca, hva, hina⟩ := ho1.inn
  subst hva
  clear ho1
  have IA := hide hina
  clear hina
  go_wp2_with fail
  refine (pickR_ref _ _ _ _ cols HC.out col A n c z HX.out ho _ _ _ rows HR.out _ _ _ days HD.out).mono ?_
  rintro e w12 ⟨⟨v2, rfl, ho2⟩, hb12⟩
  have HC := hide (HC.out.below hb12)
  have HX := hide (HX.out.below hb12)
  have HR := hide (HR.out.below hb12)
  have HL := hide (HL.out.below hb12)
  have HD := hide (HD.out.below hb12)
  have IA := hide (IA.out.below hb12)
  have g0 := bat hb12 LZ g0
  have g1 := bat hb12 LZ g1
  have g2 := bat hb12 LZ g2
  have LZ := lt_of_cell g0
  have LST13 := hide hb12
  have SG13 := hide (below_trans SG11.out hb12)
  clear hb12
  rw [HPK.out] at ho2 ⊢
  obtain ⟨Ab, cb, hvb, hinb⟩ := ho2.inn
  subst hvb
  clear ho2
  have IB := hide hinb
  clear hinb
  clear HPK
  obtain ⟨pe, pz⟩ := PK
  go_wp2_with fail
  refine (sameEnts_any _ _ _ _ _ _ _ pz pz IA.out IB.out).mono ?_
  rintro e w14 ⟨⟨r1, rfl, hq1⟩, hb14⟩
  have HC := hide (HC.out.below hb14)
  have HX := hide (HX.out.below hb14)
  have HR := hide (HR.out.below hb14)
  have HL := hide (HL.out.below hb14)
  have HD := hide (HD.out.below hb14)
  have IA := hide (IA.out.below hb14)
  have IB := hide (IB.out.below hb14)
  have g0 := bat hb14 LZ g0
  have g1 := bat hb14 LZ g1
  have g2 := bat hb14 LZ g2
  have LZ := lt_of_cell g0
  have LST15 := hide hb14
  have SG15 := hide (below_trans SG13.out hb14)
  clear hb14
  obtain rfl := hq1.2 rfl
  clear hq1
  clear HC
  clear HX
  clear HR
  clear LZ g0 g1 g2
  clear IA
  clear IB
  go_wp2_with fail
  refine (tableL_any _ A3 n3 c3 l HL.out hn3 nn zz).mono ?_
  rintro e w20 ⟨⟨gb, B3, m3, wc, Z, B4, m4, d4, B5, m5, d5, zs, j, rfl, hoc, hcm, hinZ, hmZ, hin, hto, hnum, hgb⟩, hb20⟩
  have HL := hide (HL.out.below hb20)
  have HD := hide (HD.out.below hb20)
  have LST16 := hide hb20
  have SG16 := hide (below_trans SG15.out hb20)
  clear hb20
  obtain ⟨hzZ, hoZ⟩ := wZones_ok Z hmZ
  have HTO := hide hto
  have HSC := hide (hto.scheme hcm hzZ)
  have hcc := hoc.inn
  have hinZ := hinZ.inn
  have hin := hin.inn
  clear hto hnum hgb hoc
  have HC := hide hcc
  clear hcc
  have HX := hide hinZ
  clear hinZ
  have HR := hide hin
  clear hin
  go_wp2_with fail
  obtain ⟨W7, hW7⟩ : ∃ W, W = w20.alloc (.cells #[.string Z.name, .int .i64 Z.offset, .slice B4 m4 d4] 25) := ⟨_, rfl⟩
  have z0 : W7.cell? ⟨w20.heap.size, 0, none⟩ = some (.string Z.name) := by rw [hW7]; simp [go_sem]
  have z1 : W7.cell? ⟨w20.heap.size, 1, none⟩ = some (.int .i64 Z.offset) := by rw [hW7]; simp [go_sem]
  have z2 : W7.cell? ⟨w20.heap.size, 2, none⟩ = some (.slice B4 m4 d4) := by rw [hW7]; simp [go_sem]
  have hbW7 : Below w20.heap.size w20 W7 := by rw [hW7]; exact below_alloc
  have SZW7 : Hid (W7.heap.size = w20.heap.size + 1) := hide (by rw [hW7]; exact World.size_alloc _ _)
  rw [← hW7]
  clear hW7
  have HL := hide (HL.out.below hbW7)
  have HD := hide (HD.out.below hbW7)
  have HC := hide (HC.out.below hbW7)
  have HX := hide (HX.out.below hbW7)
  have HR := hide (HR.out.below hbW7)
  have LST17 := hide hbW7
  have SG17 := hide (below_trans SG16.out hbW7)
  clear hbW7
  have LZ := lt_of_cell z0
  obtain ⟨E1, hE1⟩ : ∃ E, schemeErr wc ⟨#[97, 116]⟩ Z zs = E := ⟨_, rfl⟩
  have HE1 := hide (hE1.symm.trans HSC.out)
  refine (splitR_ref _ _ _ _ wc HC.out ⟨#[97, 116]⟩ _ _ _ Z HX.out hoZ _ _ _ zs HR.out).mono ?_
  rintro e w18 ⟨⟨B7, m7, d7, ps, rfl, hi4, hz4, hs4⟩, hb18⟩
  have HL := hide (HL.out.below hb18)
  have HD := hide (HD.out.below hb18)
  have HC := hide (HC.out.below hb18)
  have HX := hide (HX.out.below hb18)
  have HR := hide (HR.out.below hb18)
  have z0 := bat hb18 LZ z0
  have z1 := bat hb18 LZ z1
  have z2 := bat hb18 LZ z2
  have LZ := lt_of_cell z0
  have LST19 := hide hb18
  have SG19 := hide (below_trans SG17.out hb18)
  clear hb18
  rw [hE1] at hz4 hs4 ⊢
  clear hE1
  obtain rfl := HE1.out
  obtain ⟨at_, hat⟩ : ∃ at_, (findS wc ⟨#[97, 116]⟩ Z).1 = at_ := ⟨_, rfl⟩
  have HAT := hide hat
  rw [hat] at hs4
  obtain ⟨hasc, hdays⟩ := split_days (hs4 rfl)
  have HASC := hide hasc
  have HDYS := hide hdays
  have HBAG := hide (HTO.out.bag (by have := (wCols_good wc hcm).2; omega))
  have HML : Hid (m7 ≤ 1000) := hide (by
    have h1 := hi4.len
    have h2 : ps.length = (ps.map Partn.day).length := by simp
    have h3 : (ps.map Partn.day).length ≤ (daysR at_ Z zs).length := List.Nodup.length_le_of_subset (List.nodup_iff_pairwise_ne.2 (hasc.imp fun h => by omega)) fun d hd => (hdays d).1 hd
    have h4 := HBAG.out.2.2
    have h5 : (daysR at_ Z zs).length = zs.length := by rw [daysR, List.length_map]
    omega)
  have hps := hi4.len
  clear hz4 hs4 hat hasc hdays
  have IP := hide hi4
  clear hi4
  go_upto_region 9 with (fail)
  go_wp2
  have hml := HML.out
  obtain ⟨w30, rfl⟩ : ∃ w30, w30 = w18 := ⟨_, rfl⟩
  go_loopw [27, 28, 29] (fun a b i wr => ∃ (k : Nat) (ins outs : List Int), k ≤ m7 ∧ i = .int .i64 k ∧ OL 3 w30.heap.size (fun _ => False) [] wr a ins ∧ OL 3 w30.heap.size (fun _ => False) [] wr b outs ∧ (∀ k, a.ownBlock = some k → b.ownBlock ≠ some k) ∧ TwoSets (ps.map Partn.day) k ins outs ∧ Below w30.heap.size w30 wr) (fun _ _ i _ => m7 - (RowKit.intOf i).toNat)
  case atStart => exact ⟨0, [], [], Nat.zero_le _, rfl, OL.nil (Nat.le_refl _), OL.nil (Nat.le_refl _), by first | exact (fun k h => by cases h) | simp, TwoSets.start _, Below.refl _ _⟩
  case round =>
    obtain ⟨k, ins, outs, hk, rfl, hia, hib, hdis, hts, hb⟩ := hrel
    have HTS := hide hts
    have HDI := hide hdis
    have HDJ := hide fun k h h' => hdis k h' h
    have hl1 := hts.2.2.1
    have hl2 := hts.2.2.2
    clear hts hdis
    have HL := hide (HL.out.below hb)
    have HD := hide (HD.out.below hb)
    have HC := hide (HC.out.below hb)
    have HX := hide (HX.out.below hb)
    have HR := hide (HR.out.below hb)
    have IP := hide (IP.out.below hb)
    have z0 := bat hb LZ z0
    have z1 := bat hb LZ z1
    have z2 := bat hb LZ z2
    have LZ := lt_of_cell z0
    have LST20 := hide hb
    have SG20 := hide hb
    clear hb
    have OA := hide hia
    clear hia
    have OB := hide hib
    clear hib
    by_cases hlt : k < m7
    · obtain ⟨b, off, p, rfl, hBb, HX1, A8, n8, c8, e0, e1, e2, e3⟩ := IP.out.part hlt
      have k0 : (0 : Int) ≤ (k : Int) := by omega
      have k1 : (k : Int) < (m7 : Int) := by omega
      have HDK : Hid ((ps.map Partn.day).drop k = p.day :: (ps.map Partn.day).drop (k + 1)) := hide (by rw [← List.map_drop, HX1.out, List.map_cons, List.map_drop])
      clear e1 e2
      by_cases hl6 : k < n6
      · obtain ⟨b6, off6, x, rfl, hB6, HX6, i0, i1⟩ := HD.out.int hl6
        have k3 : (k : Int) < (n6 : Int) := by omega
        obtain ⟨pb, hpb⟩ : ∃ pb, (x.tmod 2 != 0) = pb := ⟨_, rfl⟩
        cases pb
        · have HTR := hide (HTS.out.right HASC.out HDK.out)
          go_wp2_with (at_builtin; refine wpList_push_OL _ rfl _ _ _ rfl elem_ints (by simp) _ _ rfl OB.out rfl rfl p.day ⟨rfl, e3⟩ (by simp only [maxLen]; omega) (by omega) ?_; intro v1 w9 ho9 hb9 hg9 hat9)
          all_goals (try (exfalso; go_light; simp_all; done))
          have HY9 := hide (OA.out.beside OB.out (by simp) HDJ.out hg9 hat9)
          have HO9 := hide ho9
          have HB9 := hide (SG20.out.trans hb9)
          clear ho9 hb9 hg9 hat9
          go_wp2
          all_goals (try (exfalso; go_light; simp_all; done))
          go_roundw
          case rel => exact ⟨k + 1, _, _, by omega, by go_num, HY9.out.1, HO9.out, HY9.out.2.2, HTR.out, HB9.out⟩
          case measure => simp [RowKit.intOf]; omega
        · have HTR := hide (HTS.out.left HASC.out HDK.out)
          go_wp2_with (at_builtin; refine wpList_push_OL _ rfl _ _ _ rfl elem_ints (by simp) _ _ rfl OA.out rfl rfl p.day ⟨rfl, e3⟩ (by simp only [maxLen]; omega) (by omega) ?_; intro v1 w9 ho9 hb9 hg9 hat9)
          all_goals (try (exfalso; go_light; simp_all; done))
          have HY9 := hide (OB.out.beside OA.out (by simp) HDI.out hg9 hat9)
          have HO9 := hide ho9
          have HB9 := hide (SG20.out.trans hb9)
          clear ho9 hb9 hg9 hat9
          go_wp2
          all_goals (try (exfalso; go_light; simp_all; done))
          go_roundw
          case rel => exact ⟨k + 1, _, _, by omega, by go_num, HO9.out, HY9.out.1, HY9.out.2.1, HTR.out, HB9.out⟩
          case measure => simp [RowKit.intOf]; omega
      · have k3 : ¬ (k : Int) < (n6 : Int) := by omega
        have HTR := hide (HTS.out.right HASC.out HDK.out)
        go_wp2_with (at_builtin; refine wpList_push_OL _ rfl _ _ _ rfl elem_ints (by simp) _ _ rfl OB.out rfl rfl p.day ⟨rfl, e3⟩ (by simp only [maxLen]; omega) (by omega) ?_; intro v1 w9 ho9 hb9 hg9 hat9)
        all_goals (try (exfalso; go_light; simp_all; done))
        have HY9 := hide (OA.out.beside OB.out (by simp) HDJ.out hg9 hat9)
        have HO9 := hide ho9
        have HB9 := hide (SG20.out.trans hb9)
        clear ho9 hb9 hg9 hat9
        go_wp2
        all_goals (try (exfalso; go_light; simp_all; done))
        go_roundw
        case rel => exact ⟨k + 1, _, _, by omega, by go_num, HY9.out.1, HO9.out, HY9.out.2.2, HTR.out, HB9.out⟩
        case measure => simp [RowKit.intOf]; omega
    · have HF : Hid (∀ d ∈ daysR at_ Z zs, (d ∈ ins ∧ d ∉ outs) ∨ (d ∉ ins ∧ d ∈ outs)) := hide (fun d hd => by
        have h1 := HTS.out.1 d
        rw [List.take_of_length_le (by rw [List.length_map]; omega), HDYS.out] at h1
        rcases h1.2 hd with q | q
        · exact .inl ⟨q, HTS.out.2.1 d q⟩
        · exact .inr ⟨fun q' => HTS.out.2.1 d q' q, q⟩)
      have HADD := hide (pickR_parts HBAG.out.1 HF.out)
      have HP1 := hide (pickS_ok (days := ins) HSC.out)
      have HP2 := hide (pickS_ok (days := outs) HSC.out)
      rw [HAT.out] at HP1 HP2
      obtain ⟨A9, c9, hv9, hin9⟩ := OA.out.inn
      subst hv9
      obtain ⟨A10, c10, hv10, hin10⟩ := OB.out.inn
      subst hv10
      clear OA
      clear OB
      have IN1 := hide hin9
      clear hin9
      have IN2 := hide hin10
      clear hin10
      go_wp2_with fail
      refine (pickP_any _ _ _ _ wc HC.out ⟨#[97, 116]⟩ _ _ _ Z HX.out hoZ _ _ _ zs HR.out _ _ _ ins IN1.out).mono ?_
      rintro e w21 ⟨⟨v3, rfl, ho3⟩, hb21⟩
      have HL := hide (HL.out.below hb21)
      have HD := hide (HD.out.below hb21)
      have HC := hide (HC.out.below hb21)
      have HX := hide (HX.out.below hb21)
      have HR := hide (HR.out.below hb21)
      have IP := hide (IP.out.below hb21)
      have IN1 := hide (IN1.out.below hb21)
      have IN2 := hide (IN2.out.below hb21)
      have z0 := bat hb21 LZ z0
      have z1 := bat hb21 LZ z1
      have z2 := bat hb21 LZ z2
      have LZ := lt_of_cell z0
      have LST22 := hide hb21
      have SG22 := hide (below_trans SG20.out hb21)
      clear hb21
      rw [HP1.out] at ho3 ⊢
      obtain ⟨Aa, ca, hva, hina⟩ := ho3.inn
      subst hva
      clear ho3
      have IA := hide hina
      clear hina
      go_wp2_with fail
      refine (pickP_any _ _ _ _ wc HC.out ⟨#[97, 116]⟩ _ _ _ Z HX.out hoZ _ _ _ zs HR.out _ _ _ outs IN2.out).mono ?_
      rintro e w23 ⟨⟨v4, rfl, ho4⟩, hb23⟩
      have HL := hide (HL.out.below hb23)
      have HD := hide (HD.out.below hb23)
      have HC := hide (HC.out.below hb23)
      have HX := hide (HX.out.below hb23)
      have HR := hide (HR.out.below hb23)
      have IP := hide (IP.out.below hb23)
      have IN1 := hide (IN1.out.below hb23)
      have IN2 := hide (IN2.out.below hb23)
      have IA := hide (IA.out.below hb23)
      have z0 := bat hb23 LZ z0
      have z1 := bat hb23 LZ z1
      have z2 := bat hb23 LZ z2
      have LZ := lt_of_cell z0
      have LST24 := hide hb23
      have SG24 := hide (below_trans SG22.out hb23)
      clear hb23
      rw [HP2.out] at ho4 ⊢
      obtain ⟨Ab, cb, hvb, hinb⟩ := ho4.inn
      subst hvb
      clear ho4
      have IB := hide hinb
      clear hinb
      simp only at IA IB
      generalize pickR at_ Z zs ins = X1 at *
      generalize pickR at_ Z zs outs = X2 at *
      go_wp2_with fail
      refine (add_ref6 _ _ _ _ X1 IA.out _ _ _ X2 IB.out).mono ?_
      rintro e w25 ⟨⟨v5, rfl, ho5⟩, hb25⟩
      have HL := hide (HL.out.below hb25)
      have HD := hide (HD.out.below hb25)
      have HC := hide (HC.out.below hb25)
      have HX := hide (HX.out.below hb25)
      have HR := hide (HR.out.below hb25)
      have IP := hide (IP.out.below hb25)
      have IN1 := hide (IN1.out.below hb25)
      have IN2 := hide (IN2.out.below hb25)
      have IA := hide (IA.out.below hb25)
      have IB := hide (IB.out.below hb25)
      have z0 := bat hb25 LZ z0
      have z1 := bat hb25 LZ z1
      have z2 := bat hb25 LZ z2
      have LZ := lt_of_cell z0
      have LST26 := hide hb25
      have SG26 := hide (below_trans SG24.out hb25)
      clear hb25
      rw [HADD.out] at ho5 ⊢
      obtain ⟨Ad, cd, hvd, hind⟩ := ho5.inn
      subst hvd
      clear ho5
      have ID := hide hind
      clear hind
      go_wp2_with fail
      refine (sameEnts_any _ _ _ _ _ _ _ zs zs ID.out HR.out).mono ?_
      rintro e w27 ⟨⟨r2, rfl, hq2⟩, hb27⟩
      have HL := hide (HL.out.below hb27)
      have HD := hide (HD.out.below hb27)
      have HC := hide (HC.out.below hb27)
      have HX := hide (HX.out.below hb27)
      have HR := hide (HR.out.below hb27)
      have IP := hide (IP.out.below hb27)
      have IN1 := hide (IN1.out.below hb27)
      have IN2 := hide (IN2.out.below hb27)
      have IA := hide (IA.out.below hb27)
      have IB := hide (IB.out.below hb27)
      have ID := hide (ID.out.below hb27)
      have z0 := bat hb27 LZ z0
      have z1 := bat hb27 LZ z1
      have z2 := bat hb27 LZ z2
      have LZ := lt_of_cell z0
      have LST28 := hide hb27
      have SG28 := hide (below_trans SG26.out hb27)
      clear hb27
      obtain rfl := hq2.2 rfl
      clear hq2
      go_wp2_with fail
      refine (known_any _).mono ?_
      rintro e w29 ⟨rfl, hb29⟩
      have HL := hide (HL.out.below hb29)
      have HD := hide (HD.out.below hb29)
      have HC := hide (HC.out.below hb29)
      have HX := hide (HX.out.below hb29)
      have HR := hide (HR.out.below hb29)
      have IP := hide (IP.out.below hb29)
      have IN1 := hide (IN1.out.below hb29)
      have IN2 := hide (IN2.out.below hb29)
      have IA := hide (IA.out.below hb29)
      have IB := hide (IB.out.below hb29)
      have ID := hide (ID.out.below hb29)
      have z0 := bat hb29 LZ z0
      have z1 := bat hb29 LZ z1
      have z2 := bat hb29 LZ z2
      have LZ := lt_of_cell z0
      have LST30 := hide hb29
      have SG30 := hide (below_trans SG28.out hb29)
      clear hb29
      go_wp2
      go_ret
      exact ⟨rfl, (below_trans SG19.out SG30.out)⟩
end Go.Proofs.YtlbhnfnecfllkaaGreat
