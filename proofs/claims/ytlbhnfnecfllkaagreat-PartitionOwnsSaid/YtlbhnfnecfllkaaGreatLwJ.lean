/-
  warehouselaw22.PartitionJoin. (Printed by gen_lwj.py.)
-/
import Derived.Test.YtlbhnfnecfllkaaGreatJoinR
import Derived.Test.YtlbhnfnecfllkaaGreatLwR
import Derived.Test.YtlbhnfnecfllkaaGreatGac
namespace Go.Proofs.YtlbhnfnecfllkaaGreat
open Go.RowKit
set_option linter.unusedSimpArgs false
set_option linter.unusedVariables false

/-- Join undoes Split. -/
theorem cnt_days {at_ : Int} {z : Zone} {zs : List Ent} {r : List Val} : ∀ {ks : List Int}, Asc ks → cnt ((ks.map fun d => (⟨d, ofDay at_ z zs d⟩ : Partn)).flatMap Partn.rows) r = if dayRow at_ z r ∈ ks then cnt zs r else 0
  | [], _ => by simp [cnt]
  | d :: ks, h => by
    have ih := cnt_days (at_ := at_) (z := z) (zs := zs) (r := r) (List.pairwise_cons.1 h).2
    have hd := (List.pairwise_cons.1 h).1
    rw [List.map_cons, List.flatMap_cons, cnt_app, ih, cnt_ofDay]
    by_cases q : dayRow at_ z r = d
    · have hn : dayRow at_ z r ∉ ks := fun hm => by have := hd _ hm; omega
      rw [if_pos q, if_neg hn, if_pos (by rw [q]; exact List.mem_cons_self)]
      omega
    · rw [if_neg q]
      by_cases q2 : dayRow at_ z r ∈ ks
      · rw [if_pos q2, if_pos (List.mem_cons_of_mem _ q2)]; omega
      · rw [if_neg q2, if_neg (by
          intro hm
          rcases List.mem_cons.1 hm with hm | hm
          · exact q hm
          · exact q2 hm)]
        omega
theorem join_split {at_ : Int} {z : Zone} {zs : List Ent} {ps : List Partn} (hb : bagErr zs = 0) (h : IsSplit at_ z zs ps) : joinS ps = (0, zs) := by
  obtain ⟨ks, h1, h2, rfl⟩ := h
  rw [joinS, normS_ok, ← bagS_bag hb]
  · refine bagS_congr fun r => ?_
    rw [cnt_days h1]
    by_cases q : dayRow at_ z r ∈ ks
    · rw [if_pos q]
    · rw [if_neg q]
      refine (cnt_none fun x hx e => q ((h2 _).2 ?_)).symm
      rw [daysR, ← cr_zero.1 e]
      exact List.mem_map_of_mem hx
  · intro x hx
    obtain ⟨p, hp, hx⟩ := List.mem_flatMap.1 hx
    obtain ⟨d, _, rfl⟩ := List.mem_map.1 hp
    exact bag_ents hb x (List.mem_filter.1 hx).1
theorem split_rows {at_ : Int} {z : Zone} {zs : List Ent} {ps : List Partn} {m : Nat} (h : IsSplit at_ z zs ps) (hl : zs.length ≤ m) : ∀ p ∈ ps, p.rows.length ≤ m := by
  obtain ⟨ks, h1, h2, rfl⟩ := h
  intro p hp
  obtain ⟨d, _, rfl⟩ := List.mem_map.1 hp
  exact Nat.le_trans (List.length_filter_le _ _) hl
set_option maxHeartbeats 8000000 in
set_option maxRecDepth 100000 in
theorem lawJ_any (w : World) (A2 : Option Addr) (n2 c2 : Nat) (ps : List Partn) (hp : In w A2 n2 c2 ps) (nn zz : Int) (A3 : Option Addr) (n3 c3 : Nat) (l : List Int) (hl : In w A3 n3 c3 l) :
    Calls Tryz.prog 7 #[.slice A2 n2 c2, .int .i64 nn, .int .i64 zz, .slice A3 n3 c3] w
      fun e w' => e = .returned (.bool true) ∧ Below w.heap.size w w' := by
  have h1 := hp.le
  have h2 := hl.le
  have HPL := hide hp.len
  by_cases q1 : 20 < n2
  · have d1 : (20 : Int) < (n2 : Int) := by omega
    go_enter Tryz.func7, Tryz.ntmps7
    go_wp2_with fail
    refine (known_any _).mono ?_
    rintro e w1 ⟨rfl, hb1⟩
    have LST2 := hide hb1
    have SG2 := hide hb1
    clear hb1
    go_wp2
    go_ret
    exact ⟨rfl, SG2.out⟩
  have d1 : ¬ (20 : Int) < (n2 : Int) := by omega
  by_cases q2 : 80 < n3
  · have d2 : (80 : Int) < (n3 : Int) := by omega
    go_enter Tryz.func7, Tryz.ntmps7
    go_wp2_with fail
    refine (known_any _).mono ?_
    rintro e w3 ⟨rfl, hb3⟩
    have LST4 := hide hb3
    have SG4 := hide hb3
    clear hb3
    go_wp2
    go_ret
    exact ⟨rfl, SG4.out⟩
  have d2 : ¬ (80 : Int) < (n3 : Int) := by omega
  have hn3 : n3 ≤ 80 := by omega
  go_enter Tryz.func7, Tryz.ntmps7
  have HP := hide hp
  clear hp
  have HL := hide hl
  clear hl
  go_wp2
  go_loopw [9] (fun i wr => ∃ k : Nat, k ≤ n2 ∧ i = .int .i64 k ∧ (∀ p ∈ ps.take k, p.rows.length ≤ 20) ∧ Below w.heap.size w wr) (fun i _ => n2 - (RowKit.intOf i).toNat)
  case atStart => exact ⟨0, Nat.zero_le _, rfl, by simp, Below.refl _ _⟩
  case round =>
    obtain ⟨k, hk, rfl, hall, hb⟩ := hrel
    have HALL := hide hall
    clear hall
    have HP := hide (HP.out.below hb)
    have HL := hide (HL.out.below hb)
    have LST5 := hide hb
    have SG5 := hide hb
    clear hb
    by_cases hlt : k < n2
    · obtain ⟨b, off, p, rfl, hB, HX, A', n', c', e0, e1, e2, e3⟩ := HP.out.part hlt
      have k0 : (0 : Int) ≤ (k : Int) := by omega
      have k1 : (k : Int) < (n2 : Int) := by omega
      have HLN := hide e2.len
      have HR2 := hide e2
      clear e2
      clear e0
      go_wp2_with fail
      refine (within_any _ A' n' c' p.rows HR2.out 20).mono ?_
      rintro e w6 ⟨⟨r, rfl, hrr⟩, hb6⟩
      have HP := hide (HP.out.below hb6)
      have HL := hide (HL.out.below hb6)
      have HR2 := hide (HR2.out.below hb6)
      have LST7 := hide hb6
      have SG7 := hide (below_trans SG5.out hb6)
      clear hb6
      cases r
      · go_wp2_with fail
        refine (known_any _).mono ?_
        rintro e w8 ⟨rfl, hb8⟩
        have HP := hide (HP.out.below hb8)
        have HL := hide (HL.out.below hb8)
        have HR2 := hide (HR2.out.below hb8)
        have LST9 := hide hb8
        have SG9 := hide (below_trans SG7.out hb8)
        clear hb8
        go_wp2
        go_ret
        exact ⟨rfl, SG9.out⟩
      · have HA2 := hide (mem_drop HX.out HALL.out (by have := (hrr rfl).1; have := HLN.out; omega : p.rows.length ≤ 20))
        clear hrr
        go_wp2
        go_roundw
        case rel => exact ⟨k + 1, by omega, by go_num, HA2.out, SG7.out⟩
        case measure => simp [RowKit.intOf]; omega
    · have HPB : Hid (∀ p ∈ ps, p.rows.length ≤ 1000) := hide (by
        have h := HALL.out
        rw [List.take_of_length_le (by rw [HPL.out]; omega)] at h
        exact fun p hp => Nat.le_trans (h p hp) (by omega))
      clear HALL
      have hn2 : n2 ≤ 1000 := by omega
      obtain ⟨RJ, hRJ⟩ : ∃ R, joinS ps = R := ⟨_, rfl⟩
      have HRJ := hide hRJ
      clear hRJ
      go_wp2_with fail
      refine (join_any _ A2 n2 c2 ps HP.out hn2 HPB.out).mono ?_
      rintro e w10 ⟨⟨v1, rfl, ho1⟩, hb10⟩
      have HP := hide (HP.out.below hb10)
      have HL := hide (HL.out.below hb10)
      have LST11 := hide hb10
      have SG11 := hide (below_trans SG5.out hb10)
      clear hb10
      rw [HRJ.out] at ho1 ⊢
      obtain ⟨Aa, ca, hva, hina⟩ := ho1.inn
      subst hva
      clear ho1
      have IA := hide hina
      clear hina
      go_wp2_with fail
      refine (join_ref _ A2 n2 c2 ps HP.out hn2 HPB.out).mono ?_
      rintro e w12 ⟨⟨v2, rfl, ho2⟩, hb12⟩
      have HP := hide (HP.out.below hb12)
      have HL := hide (HL.out.below hb12)
      have IA := hide (IA.out.below hb12)
      have LST13 := hide hb12
      have SG13 := hide (below_trans SG11.out hb12)
      clear hb12
      rw [HRJ.out] at ho2 ⊢
      obtain ⟨Ab, cb, hvb, hinb⟩ := ho2.inn
      subst hvb
      clear ho2 HRJ HPB
      clear HP
      have IB := hide hinb
      clear hinb
      go_wp2_with fail
      refine (tableL_any _ A3 n3 c3 l HL.out hn3 nn zz).mono ?_
      rintro e w20 ⟨⟨gb, B3, m3, wc, Z, B4, m4, d4, B5, m5, d5, zs, j, rfl, hoc, hcm, hinZ, hmZ, hin, hto, hnum, hgb⟩, hb20⟩
      have HL := hide (HL.out.below hb20)
      have IA := hide (IA.out.below hb20)
      have IB := hide (IB.out.below hb20)
      have LST14 := hide hb20
      have SG14 := hide (below_trans SG13.out hb20)
      clear hb20
      obtain ⟨hzZ, hoZ⟩ := wZones_ok Z hmZ
      have HTO := hide hto
      have HSC := hide (hto.scheme hcm hzZ)
      have hcc := hoc.inn
      have hinZ := hinZ.inn
      have hin := hin.inn
      clear hto hnum hgb hoc
      have HC := hide hcc
      clear hcc
      have HX := hide hinZ
      clear hinZ
      have HR := hide hin
      clear hin
      go_wp2_with fail
      obtain ⟨W7, hW7⟩ : ∃ W, W = w20.alloc (.cells #[.string Z.name, .int .i64 Z.offset, .slice B4 m4 d4] 25) := ⟨_, rfl⟩
      have z0 : W7.cell? ⟨w20.heap.size, 0, none⟩ = some (.string Z.name) := by rw [hW7]; simp [go_sem]
      have z1 : W7.cell? ⟨w20.heap.size, 1, none⟩ = some (.int .i64 Z.offset) := by rw [hW7]; simp [go_sem]
      have z2 : W7.cell? ⟨w20.heap.size, 2, none⟩ = some (.slice B4 m4 d4) := by rw [hW7]; simp [go_sem]
      have hbW7 : Below w20.heap.size w20 W7 := by rw [hW7]; exact below_alloc
      have SZW7 : Hid (W7.heap.size = w20.heap.size + 1) := hide (by rw [hW7]; exact World.size_alloc _ _)
      rw [← hW7]
      clear hW7
      have HL := hide (HL.out.below hbW7)
      have IA := hide (IA.out.below hbW7)
      have IB := hide (IB.out.below hbW7)
      have HC := hide (HC.out.below hbW7)
      have HX := hide (HX.out.below hbW7)
      have HR := hide (HR.out.below hbW7)
      have LST15 := hide hbW7
      have SG15 := hide (below_trans SG14.out hbW7)
      clear hbW7
      have LZ := lt_of_cell z0
      obtain ⟨E1, hE1⟩ : ∃ E, schemeErr wc ⟨#[97, 116]⟩ Z zs = E := ⟨_, rfl⟩
      have HE1 := hide hE1
      rw [hE1] at HSC
      obtain rfl : E1 = 0 := HSC.out
      clear hE1
      refine (splitP_any _ _ _ _ wc HC.out ⟨#[97, 116]⟩ _ _ _ Z HX.out hoZ _ _ _ zs HR.out).mono ?_
      rintro e w16 ⟨⟨B6, m6, d6, qs, rfl, hi3, hz3, hs3⟩, hb16⟩
      have HL := hide (HL.out.below hb16)
      have IA := hide (IA.out.below hb16)
      have IB := hide (IB.out.below hb16)
      have HC := hide (HC.out.below hb16)
      have HX := hide (HX.out.below hb16)
      have HR := hide (HR.out.below hb16)
      have z0 := bat hb16 LZ z0
      have z1 := bat hb16 LZ z1
      have z2 := bat hb16 LZ z2
      have LZ := lt_of_cell z0
      have LST17 := hide hb16
      have SG17 := hide (below_trans SG15.out hb16)
      clear hb16
      rw [HE1.out] at hz3 hs3 ⊢
      have HJ : Hid (joinS qs = (0, zs) ∧ (∀ p ∈ qs, p.rows.length ≤ 1000) ∧ qs.length ≤ 1000) := hide ⟨join_split (HTO.out.bag (by have := (wCols_good wc hcm).2; omega)).1 (hs3 rfl), split_rows (hs3 rfl) (HTO.out.bag (by have := (wCols_good wc hcm).2; omega)).2.2, split_le HTO.out hcm HE1.out (fun _ => hs3 rfl) rfl⟩
      have hm6 : m6 ≤ 1000 := by have := HJ.out.2.2; have := hi3.len; omega
      clear hz3 hs3 hcm
      clear HC
      clear HX
      clear LZ z0 z1 z2
      have IQ := hide hi3
      clear hi3
      obtain ⟨RS, hRS⟩ : ∃ R, joinS qs = R := ⟨_, rfl⟩
      have HRS := hide hRS
      have HRV := hide (HJ.out.1)
      rw [hRS] at HRV
      clear hRS
      go_wp2_with fail
      refine (join_any _ B6 m6 d6 qs IQ.out hm6 HJ.out.2.1).mono ?_
      rintro e w18 ⟨⟨v3, rfl, ho3⟩, hb18⟩
      have HL := hide (HL.out.below hb18)
      have IA := hide (IA.out.below hb18)
      have IB := hide (IB.out.below hb18)
      have HR := hide (HR.out.below hb18)
      have IQ := hide (IQ.out.below hb18)
      have LST19 := hide hb18
      have SG19 := hide (below_trans SG17.out hb18)
      clear hb18
      rw [HRS.out] at ho3 ⊢
      obtain rfl := HRV.out
      obtain ⟨Ac, cc, hvc, hinc⟩ := ho3.inn
      subst hvc
      clear ho3 HRS HJ
      have IC := hide hinc
      clear hinc
      obtain ⟨re, rz⟩ := RJ
      go_wp2_with fail
      refine (sameEnts_any _ _ _ _ _ _ _ rz rz IA.out IB.out).mono ?_
      rintro e w20 ⟨⟨r1, rfl, hq1⟩, hb20⟩
      have HL := hide (HL.out.below hb20)
      have IA := hide (IA.out.below hb20)
      have IB := hide (IB.out.below hb20)
      have HR := hide (HR.out.below hb20)
      have IQ := hide (IQ.out.below hb20)
      have IC := hide (IC.out.below hb20)
      have LST21 := hide hb20
      have SG21 := hide (below_trans SG19.out hb20)
      clear hb20
      obtain rfl := hq1.2 rfl
      clear hq1
      go_wp2_with fail
      refine (sameEnts_any _ _ _ _ _ _ _ zs zs IC.out HR.out).mono ?_
      rintro e w22 ⟨⟨r2, rfl, hq2⟩, hb22⟩
      have HL := hide (HL.out.below hb22)
      have IA := hide (IA.out.below hb22)
      have IB := hide (IB.out.below hb22)
      have HR := hide (HR.out.below hb22)
      have IQ := hide (IQ.out.below hb22)
      have IC := hide (IC.out.below hb22)
      have LST23 := hide hb22
      have SG23 := hide (below_trans SG21.out hb22)
      clear hb22
      obtain rfl := hq2.2 rfl
      clear hq2
      go_wp2_with fail
      refine (known_any _).mono ?_
      rintro e w24 ⟨rfl, hb24⟩
      have HL := hide (HL.out.below hb24)
      have IA := hide (IA.out.below hb24)
      have IB := hide (IB.out.below hb24)
      have HR := hide (HR.out.below hb24)
      have IQ := hide (IQ.out.below hb24)
      have IC := hide (IC.out.below hb24)
      have LST25 := hide hb24
      have SG25 := hide (below_trans SG23.out hb24)
      clear hb24
      go_wp2
      go_ret
      exact ⟨rfl, SG25.out⟩
end Go.Proofs.YtlbhnfnecfllkaaGreat
