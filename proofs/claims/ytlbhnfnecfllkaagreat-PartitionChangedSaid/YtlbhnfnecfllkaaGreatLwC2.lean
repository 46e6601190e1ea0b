/-
  warehouselaw22.PartitionChanged. (Printed by gen_lwc.py.)
-/
import Derived.Test.YtlbhnfnecfllkaaGreatChW
import Derived.Test.YtlbhnfnecfllkaaGreatChgR
import Derived.Test.YtlbhnfnecfllkaaGreatLwR
import Derived.Test.YtlbhnfnecfllkaaGreatGac
namespace Go.Proofs.YtlbhnfnecfllkaaGreat
open Go.RowKit
set_option linter.unusedSimpArgs false
set_option linter.unusedVariables false

theorem addS_spec (xs ys : List Ent) : bagErr (addS xs ys).2 = 0 ∧ (∀ P : List Val → Prop, (∀ x ∈ xs, P x.row) → (∀ x ∈ ys, P x.row) → ∀ x ∈ (addS xs ys).2, P x.row) ∧ (addS xs ys).2.length ≤ xs.length + ys.length := by
  rw [addS]
  split
  · exact ⟨rfl, by intro P _ _ x hx; simp at hx, Nat.zero_le _⟩
  · rename_i h1
    split
    · exact ⟨rfl, by intro P _ _ x hx; simp at hx, Nat.zero_le _⟩
    · rename_i h2
      have h1 : bagErr xs = 0 := by simpa using h1
      have h2 : bagErr ys = 0 := by simpa using h2
      refine ⟨bagS_ok fun x hx => ?_, fun P p1 p2 => bagS_rows fun x hx => ?_, ?_⟩
      · rcases List.mem_append.1 hx with hx | hx
        · exact bag_ents h1 x hx
        · exact bag_ents h2 x hx
      · rcases List.mem_append.1 hx with hx | hx
        · exact p1 x hx
        · exact p2 x hx
      · have := len_bagS (xs := xs ++ ys)
        rwa [List.length_append] at this
theorem tab_counts {cols : List Col} (hl : cols.length ≤ 12) {zs : List Ent} (h : TabOf cols zs) : ∀ x ∈ zs, 1 ≤ x.count ∧ x.count ≤ 65536 := by
  have hb := (h.bag hl).1
  obtain ⟨xs, q, h1, h2, h3⟩ := h
  have hn := normed_S h3
  rw [normS_ok fun x hx => tent_ent hl (h1 x hx)] at hn
  intro x hx
  have h5 := bag_noz hb x hx
  have h6 := ent_cnt (bag_ents hb x hx)
  have h7 := (bag_asc hb).mem hx
  have h8 : ∀ (l : List Ent) (r : List Val), (∀ y ∈ l, 1 ≤ y.count) → 0 ≤ cnt l r := by
    intro l r
    induction l with
    | nil => intro _; exact Int.le_refl _
    | cons y l ih =>
      intro hy
      rw [cnt]
      have a := hy y (by simp)
      have b := ih fun z hz => hy z (by simp [hz])
      split <;> omega
  by_cases hq : (bagS xs).1 = 0
  · have h9 := bagS_cnt hq x.row
    rw [hn] at h9
    have h10 := h8 xs x.row fun y hy => (h1 y hy).2.2.1
    simp only at h9
    omega
  · rcases bagS_err xs with e | ⟨_, e⟩
    · exact absurd e hq
    · rw [hn] at e
      simp only at e
      rw [e] at hx; cases hx
theorem norm_spec {cols : List Col} (hl : cols.length ≤ 12) {xs zs : List Ent} {q : Int} (h : Normed xs q zs) (hr : ∀ x ∈ xs, rowErr cols x.row = 0) : (∀ x ∈ zs, rowErr cols x.row = 0) ∧ zs.length ≤ xs.length := by
  have hn := normed_S h
  rw [normS] at hn
  split at hn
  · injection hn with _ hn
    subst hn
    exact ⟨by simp, by simp⟩
  · have a := bagS_rows (P := fun r => rowErr cols r = 0) hr
    have b := len_bagS (xs := xs)
    rw [hn] at a b
    exact ⟨a, b⟩
theorem chg_eq {E at_ : Int} {z : Zone} {old new : List Ent} {ds es : List Int} (h1 : E ≠ 0 → ds = []) (h2 : E = 0 → IsChanged at_ z old new ds) (h3 : E ≠ 0 → es = []) (h4 : E = 0 → IsChanged at_ z old new es) : ds = es := by
  by_cases h : E = 0
  · exact (h2 h).unique (h4 h)
  · rw [h1 h, h3 h]
/-- One element of a slice, as a slice. -/
theorem In.oneOf {w : World} {A : Option Addr} {n c k : Nat} {xs l : List Int} {x : Int} (h : In w A n c xs) (hk : k < n) (hd : xs.drop k = x :: l) : In w (if c = k then A else A.map (·.add (k * Rep.size Int))) 1 (c - k) [x] := by
  have h1 := Sl.head (Sl.tail h (k := k) (by omega)) (k := 1) (by omega)
  rw [hd] at h1
  exact h1
set_option maxHeartbeats 8000000 in
set_option maxRecDepth 100000 in
theorem lawCh_any (w : World) (A1 : Option Addr) (n1 c1 : Nat) (cols : List Col) (hc : In w A1 n1 c1 cols) (col : ByteArray) (A : Option Addr) (n c : Nat) (z : Zone) (hx : In w A n c z.shifts) (ho : I64 z.offset) (A2 : Option Addr) (n2 c2 : Nat) (rows : List Ent) (hr : In w A2 n2 c2 rows) (A6 : Option Addr) (n6 c6 : Nat) (new : List Ent) (hp : In w A6 n6 c6 new) (nn zz : Int) (A3 : Option Addr) (n3 c3 : Nat) (l : List Int) (hl : In w A3 n3 c3 l) :
    Calls Tryz.prog 6 #[.slice A1 n1 c1, .string col, .agg #[.string z.name, .int .i64 z.offset, .slice A n c], .slice A2 n2 c2, .slice A6 n6 c6, .int .i64 nn, .int .i64 zz, .slice A3 n3 c3] w
      fun e w' => e = .returned (.bool true) ∧ Below w.heap.size w w' := by
  have h1 := hc.le
  have h3 := hl.le
  have h4 := hx.le
  obtain ⟨sm, hsm⟩ : ∃ sm, (decide (n1 ≤ 16) && decide (n ≤ 70) && decide (n3 ≤ 80)) = sm := ⟨_, rfl⟩
  have HSM := hide hsm
  clear hsm
  obtain ⟨E, hE⟩ : ∃ E, chgErr cols col z rows new = E := ⟨_, rfl⟩
  have HE := hide hE
  clear hE
  go_enter Tryz.func6, Tryz.ntmps6
  go_wp2_with fail
  refine (small_law _ A1 A A3 n1 c1 n c n3 c3 z.name z.offset h1 h4 h3).mono ?_
  rintro e w1 ⟨rfl, hb1⟩
  rw [HSM.out]
  have hbb := below_trans below_alloc hb1
  have g0 := bat (b := w.heap.size) (o := 0) (v := .string z.name) hb1 (by simp) (by simp [go_sem])
  have g1 := bat (b := w.heap.size) (o := 1) (v := .int .i64 z.offset) hb1 (by simp) (by simp [go_sem])
  have g2 := bat (b := w.heap.size) (o := 2) (v := .slice A n c) hb1 (by simp) (by simp [go_sem])
  clear hb1 h1 h3 h4
  have HC := hide hc
  clear hc
  have HX := hide hx
  clear hx
  have HR := hide hr
  clear hr
  have HL := hide hl
  clear hl
  have HP := hide hp
  clear hp
  have HC := hide (HC.out.below hbb)
  have HX := hide (HX.out.below hbb)
  have HR := hide (HR.out.below hbb)
  have HL := hide (HL.out.below hbb)
  have HP := hide (HP.out.below hbb)
  have LST1 := hide hbb
  have SG1 := hide hbb
  clear hbb
  have LZ := lt_of_cell g0
  cases sm
  · go_wp2_with fail
    refine (known_any _).mono ?_
    rintro e w2 ⟨rfl, hb2⟩
    have HC := hide (HC.out.below hb2)
    have HX := hide (HX.out.below hb2)
    have HR := hide (HR.out.below hb2)
    have HL := hide (HL.out.below hb2)
    have HP := hide (HP.out.below hb2)
    have g0 := bat hb2 LZ g0
    have g1 := bat hb2 LZ g1
    have g2 := bat hb2 LZ g2
    have LZ := lt_of_cell g0
    have LST3 := hide hb2
    have SG3 := hide (below_trans SG1.out hb2)
    clear hb2
    go_wp2
    go_ret
    exact ⟨rfl, SG3.out⟩
  have hn3 : n3 ≤ 80 := by have := HSM.out; simp at this; omega
  go_wp2_with fail
  refine (within_any _ A2 n2 c2 rows HR.out 20).mono ?_
  rintro e w4 ⟨⟨r, rfl, hr⟩, hb4⟩
  have HC := hide (HC.out.below hb4)
  have HX := hide (HX.out.below hb4)
  have HR := hide (HR.out.below hb4)
  have HL := hide (HL.out.below hb4)
  have HP := hide (HP.out.below hb4)
  have g0 := bat hb4 LZ g0
  have g1 := bat hb4 LZ g1
  have g2 := bat hb4 LZ g2
  have LZ := lt_of_cell g0
  have LST5 := hide hb4
  have SG5 := hide (below_trans SG1.out hb4)
  clear hb4
  cases r
  · go_wp2_with fail
    refine (known_any _).mono ?_
    rintro e w6 ⟨rfl, hb6⟩
    have HC := hide (HC.out.below hb6)
    have HX := hide (HX.out.below hb6)
    have HR := hide (HR.out.below hb6)
    have HL := hide (HL.out.below hb6)
    have HP := hide (HP.out.below hb6)
    have g0 := bat hb6 LZ g0
    have g1 := bat hb6 LZ g1
    have g2 := bat hb6 LZ g2
    have LZ := lt_of_cell g0
    have LST7 := hide hb6
    have SG7 := hide (below_trans SG5.out hb6)
    clear hb6
    go_wp2
    go_ret
    exact ⟨rfl, SG7.out⟩
  go_wp2_with fail
  refine (within_any _ A6 n6 c6 new HP.out 20).mono ?_
  rintro e w8 ⟨⟨r2, rfl, hr2⟩, hb8⟩
  have HC := hide (HC.out.below hb8)
  have HX := hide (HX.out.below hb8)
  have HR := hide (HR.out.below hb8)
  have HL := hide (HL.out.below hb8)
  have HP := hide (HP.out.below hb8)
  have g0 := bat hb8 LZ g0
  have g1 := bat hb8 LZ g1
  have g2 := bat hb8 LZ g2
  have LZ := lt_of_cell g0
  have LST9 := hide hb8
  have SG9 := hide (below_trans SG5.out hb8)
  clear hb8
  cases r2
  · go_wp2_with fail
    refine (known_any _).mono ?_
    rintro e w10 ⟨rfl, hb10⟩
    have HC := hide (HC.out.below hb10)
    have HX := hide (HX.out.below hb10)
    have HR := hide (HR.out.below hb10)
    have HL := hide (HL.out.below hb10)
    have HP := hide (HP.out.below hb10)
    have g0 := bat hb10 LZ g0
    have g1 := bat hb10 LZ g1
    have g2 := bat hb10 LZ g2
    have LZ := lt_of_cell g0
    have LST11 := hide hb10
    have SG11 := hide (below_trans SG9.out hb10)
    clear hb10
    go_wp2
    go_ret
    exact ⟨rfl, SG11.out⟩
  go_wp2_with fail
  refine (chgP_any _ _ _ _ cols HC.out col A n c z HX.out ho _ _ _ rows HR.out _ _ _ new HP.out).mono ?_
  rintro e w12 ⟨⟨Ba, ma, da, ds, rfl, hia, hza, hsa⟩, hb12⟩
  have HC := hide (HC.out.below hb12)
  have HX := hide (HX.out.below hb12)
  have HR := hide (HR.out.below hb12)
  have HL := hide (HL.out.below hb12)
  have HP := hide (HP.out.below hb12)
  have g0 := bat hb12 LZ g0
  have g1 := bat hb12 LZ g1
  have g2 := bat hb12 LZ g2
  have LZ := lt_of_cell g0
  have LST13 := hide hb12
  have SG13 := hide (below_trans SG9.out hb12)
  clear hb12
  rw [HE.out] at hza hsa ⊢
  have IA := hide hia
  clear hia
  go_wp2_with fail
  refine (chgR_ref _ _ _ _ cols HC.out col A n c z HX.out ho _ _ _ rows HR.out _ _ _ new HP.out).mono ?_
  rintro e w14 ⟨⟨Bb, mb, db, es, rfl, hib, hzb, hsb⟩, hb14⟩
  have HC := hide (HC.out.below hb14)
  have HX := hide (HX.out.below hb14)
  have HR := hide (HR.out.below hb14)
  have HL := hide (HL.out.below hb14)
  have HP := hide (HP.out.below hb14)
  have IA := hide (IA.out.below hb14)
  have g0 := bat hb14 LZ g0
  have g1 := bat hb14 LZ g1
  have g2 := bat hb14 LZ g2
  have LZ := lt_of_cell g0
  have LST15 := hide hb14
  have SG15 := hide (below_trans SG13.out hb14)
  clear hb14
  rw [HE.out] at hzb hsb ⊢
  have IB := hide hib
  clear hib
  have HP1 := hide (chg_eq hza hsa hzb hsb)
  clear hza hsa hzb hsb HE
  have HDEC : Hid (decide (ds = es) = true) := hide (by simpa using HP1.out)
  go_wp2_with fail
  refine (sameInts_any _ _ _ _ _ _ _ ds es IA.out IB.out).mono ?_
  rintro e w16 ⟨rfl, hb16⟩
  have HC := hide (HC.out.below hb16)
  have HX := hide (HX.out.below hb16)
  have HR := hide (HR.out.below hb16)
  have HL := hide (HL.out.below hb16)
  have HP := hide (HP.out.below hb16)
  have IA := hide (IA.out.below hb16)
  have IB := hide (IB.out.below hb16)
  have g0 := bat hb16 LZ g0
  have g1 := bat hb16 LZ g1
  have g2 := bat hb16 LZ g2
  have LZ := lt_of_cell g0
  have LST17 := hide hb16
  have SG17 := hide (below_trans SG15.out hb16)
  clear hb16
  rw [HDEC.out]
  clear HC
  clear HX
  clear HR
  clear LZ g0 g1 g2
  clear HP
  clear IA
  clear IB
  go_wp2_with fail
  refine (tableL_any _ A3 n3 c3 l HL.out hn3 nn zz).mono ?_
  rintro e w20 ⟨⟨gb, B3, m3, wc, Z, B4, m4, d4, B5, m5, d5, zs, j, rfl, hoc, hcm, hinZ, hmZ, hin, hto, hnum, hgb⟩, hb20⟩
  clear HL
  have HGB : Hid (w.heap.size ≤ gb) := hide (Nat.le_trans SG17.out.size hgb)
  have hb20' := below_trans SG17.out hb20
  clear hb20
  obtain ⟨hzZ, hoZ⟩ := wZones_ok Z hmZ
  have hcl12 : wc.length ≤ 12 := by have := (wCols_good wc hcm).2; omega
  have HSC := hide (hto.scheme hcm hzZ)
  have HBG := hide (hto.bag hcl12)
  have HTC := hide (tab_counts hcl12 hto)
  have HCM := hide hcm
  have HZZ := hide hzZ
  have HGL : Hid (gb < w20.heap.size) := hide hnum.lt
  clear hto hgb hzZ hmZ
  have HBA := hide hb20'
  clear hb20'
  have HC := hide hoc
  clear hoc
  have HX := hide hinZ
  clear hinZ
  have HR := hide hin
  clear hin
  have HN := hide hnum
  clear hnum
  go_upto_region 8 with (fail)
  obtain ⟨W7, hW7⟩ : ∃ W, W = w20.alloc (.cells #[.string Z.name, .int .i64 Z.offset, .slice B4 m4 d4] 25) := ⟨_, rfl⟩
  have z0 : W7.cell? ⟨w20.heap.size, 0, none⟩ = some (.string Z.name) := by rw [hW7]; simp [go_sem]
  have z1 : W7.cell? ⟨w20.heap.size, 1, none⟩ = some (.int .i64 Z.offset) := by rw [hW7]; simp [go_sem]
  have z2 : W7.cell? ⟨w20.heap.size, 2, none⟩ = some (.slice B4 m4 d4) := by rw [hW7]; simp [go_sem]
  have hbW7 : Below w20.heap.size w20 W7 := by rw [hW7]; exact below_alloc
  have SZW7 : Hid (W7.heap.size = w20.heap.size + 1) := hide (by rw [hW7]; exact World.size_alloc _ _)
  rw [← hW7]
  clear hW7
  have HC := hide (HC.out.below hbW7)
  have HX := hide (HX.out.below hbW7)
  have HR := hide (HR.out.below hbW7)
  have HN := hide (HN.out.below hbW7)
  have LST18 := hide hbW7
  have SG18 := hide hbW7
  clear hbW7
  have LZ := lt_of_cell z0
  go_wp2_with fail
  refine (changeW_any _ gb A3 n3 c3 l j HN.out _ m3 m3 wc HC.out (wCols_good wc HCM.out).1 (by have := HC.out.inn.len; have := (wCols_good wc HCM.out).2; omega) _ _ _ zs HR.out (by have := HR.out.inn.len; have := HBG.out.2.2; omega) HTC.out HBG.out.2.1 4 (by omega) (by omega)).mono ?_
  rintro e w8 ⟨v8, xs8, ch, q8, j8, rfl, ho8, hx8, hxl8, hno8, hn8, hg8⟩
  obtain ⟨A8, c8, hv8, hin8⟩ := ho8.inn
  subst hv8
  have HNB : Hid (some w20.heap.size ≠ some gb) := hide (fun e => by injection e with e; have := HGL.out; omega)
  replace z0 := hg8.cell (a := ⟨w20.heap.size, 0, none⟩) z0 HNB.out
  replace z1 := hg8.cell (a := ⟨w20.heap.size, 1, none⟩) z1 HNB.out
  replace z2 := hg8.cell (a := ⟨w20.heap.size, 2, none⟩) z2 HNB.out
  have HSP := hide (norm_spec hcl12 hno8 hx8)
  have HC := hide (HC.out.grown hg8).inn
  have HX := hide (HX.out.grown hg8).inn
  have HR := hide (HR.out.grown hg8).inn
  have HBW8 := hide (below_of_grown (below_trans HBA.out SG18.out) hg8 (Nat.le_trans HBA.out.size SG18.out.size) HGB.out)
  clear ho8 hn8 hg8 hno8 HNB HGL HGB HTC
  clear HN
  have HCH := hide hin8
  clear hin8
  have LZ := lt_of_cell z0
  have HAS := hide (addS_spec zs ch)
  obtain ⟨PA, hPA⟩ : ∃ PA, addS zs ch = PA := ⟨_, rfl⟩
  rw [hPA] at HAS
  have HPA := hide hPA
  clear hPA
  go_wp2_with fail
  refine (add_ref6 _ _ _ _ zs HR.out _ _ _ ch HCH.out).mono ?_
  rintro e w19 ⟨⟨v9, rfl, ho9⟩, hb19⟩
  have HC := hide (HC.out.below hb19)
  have HX := hide (HX.out.below hb19)
  have HR := hide (HR.out.below hb19)
  have HCH := hide (HCH.out.below hb19)
  have z0 := bat hb19 LZ z0
  have z1 := bat hb19 LZ z1
  have z2 := bat hb19 LZ z2
  have LZ := lt_of_cell z0
  have LST20 := hide hb19
  have SG20 := hide (below_trans HBW8.out hb19)
  clear hb19
  rw [HPA.out] at ho9 ⊢
  obtain ⟨A9, c9, hv9, hin9⟩ := ho9.inn
  subst hv9
  clear ho9 HPA
  obtain ⟨ae, ms⟩ := PA
  try simp only at HAS
  try simp only at hin9
  clear HCH
  have HM := hide hin9
  clear hin9
  have HMB := hide HAS.out.1
  have HMR := hide (HAS.out.2.1 (fun r => rowErr wc r = 0) HBG.out.2.1 HSP.out.1)
  have HML : Hid ((zs ++ ms).length ≤ 4096) := hide (by
    have h1 := HAS.out.2.2
    have h2 := HSP.out.2
    have h3 := HBG.out.2.2
    rw [List.length_append]; omega)
  have HSM2 := hide (scheme_of (wCols_find HCM.out HZZ.out) HMB.out HMR.out)
  have HZB := hide HBG.out.1
  have HZR := hide HBG.out.2.1
  clear HAS HSP hxl8 hx8 HBG
  go_wp2_with fail
  refine (chgP_any _ _ _ _ wc HC.out ⟨#[97, 116]⟩ _ _ _ Z HX.out hoZ _ _ _ zs HR.out _ _ _ ms HM.out).mono ?_
  rintro e w21 ⟨⟨Bd, md, dd, days, rfl, hid, hzd, hsd⟩, hb21⟩
  have HC := hide (HC.out.below hb21)
  have HX := hide (HX.out.below hb21)
  have HR := hide (HR.out.below hb21)
  have HM := hide (HM.out.below hb21)
  have z0 := bat hb21 LZ z0
  have z1 := bat hb21 LZ z1
  have z2 := bat hb21 LZ z2
  have LZ := lt_of_cell z0
  have LST22 := hide hb21
  have SG22 := hide (below_trans SG20.out hb21)
  clear hb21
  have HCE : Hid (chgErr wc ⟨#[97, 116]⟩ Z zs ms = 0) := hide (by rw [chgErr, if_neg (by simpa using HSC.out)]; exact HSM2.out)
  rw [HCE.out] at hsd ⊢
  obtain ⟨at_, hat⟩ : ∃ at_, (findS wc ⟨#[97, 116]⟩ Z).1 = at_ := ⟨_, rfl⟩
  have HAT := hide hat
  rw [hat] at hsd
  have HIS := hide (hsd rfl)
  clear hzd hsd hat
  have ID := hide hid
  clear hid
  have hmd := ID.out.le
  have HMD := hide ID.out.len
  have hcap := ID.out.cap
  go_upto_region 12 with (fail)
  go_wp2
  go_loopw [29, 30] (fun o i wr => ∃ (k : Nat) (Ax : Option Addr) (nx cx : Nat) (now : List Ent), k ≤ md ∧ i = .int .i64 k ∧ o = .slice Ax nx cx ∧ In wr Ax nx cx now ∧ Mixed at_ Z zs ms now (days.take k) ∧ Below w21.heap.size w21 wr) (fun _ i _ => md - (RowKit.intOf i).toNat)
  case atStart => exact ⟨0, _, _, _, zs, Nat.zero_le _, rfl, rfl, HR.out, by simpa using Mixed.start HZB.out, Below.refl _ _⟩
  case round =>
    obtain ⟨k, Ax, nx, cx, now, hk, rfl, rfl, hnow, hmx, hb⟩ := hrel
    have HMX := hide hmx
    clear hmx
    have HC := hide (HC.out.below hb)
    have HX := hide (HX.out.below hb)
    have HR := hide (HR.out.below hb)
    have HM := hide (HM.out.below hb)
    have ID := hide (ID.out.below hb)
    have z0 := bat hb LZ z0
    have z1 := bat hb LZ z1
    have z2 := bat hb LZ z2
    have LZ := lt_of_cell z0
    have LST23 := hide hb
    have SG23 := hide hb
    clear hb
    have NOW := hide hnow
    clear hnow
    by_cases hlt : k < md
    · obtain ⟨b, off, x, hBd, hBb, HX1, e0, e1⟩ := ID.out.int hlt
      have k0 : (0 : Int) ≤ (k : Int) := by omega
      have k1 : (k : Int) < (md : Int) := by omega
      have kw : IntKind.i64.wrap ((k : Int) + 1) = (k : Int) + 1 := IntWalk.i64_in _ (by omega)
      have HNE : Hid (now ≠ ms) := hide (HMX.out.ne HZB.out HMB.out HIS.out (d := x) (l := days.drop (k + 1)) (by rw [← HX1.out, List.take_append_drop]))
      have HONE := hide (ID.out.oneOf hlt HX1.out)
      have LDY := lt_of_cell e0
      have HTK := hide (take_snoc HX1.out)
      go_wp2_with fail
      refine (sameEnts_any _ _ _ _ _ _ _ now ms NOW.out HM.out).mono ?_
      rintro e w24 ⟨⟨r, rfl, hr⟩, hb24⟩
      have HC := hide (HC.out.below hb24)
      have HX := hide (HX.out.below hb24)
      have HR := hide (HR.out.below hb24)
      have HM := hide (HM.out.below hb24)
      have ID := hide (ID.out.below hb24)
      have NOW := hide (NOW.out.below hb24)
      have HONE := hide (HONE.out.below hb24)
      have z0 := bat hb24 LZ z0
      have z1 := bat hb24 LZ z1
      have z2 := bat hb24 LZ z2
      have LZ := lt_of_cell z0
      have e0 := bat hb24 LDY e0
      have LDY := lt_of_cell e0
      have LST25 := hide hb24
      have SG25 := hide (below_trans SG23.out hb24)
      clear hb24
      have hrf : r = false := by
        cases r
        · rfl
        · exact absurd (hr.1 rfl) HNE.out
      subst hrf
      clear hr
      subst hBd
      have k2 : (k : Int) ≤ (k : Int) + 1 := by omega
      have k3 : (k : Int) + 1 ≤ (dd : Int) := by omega
      go_upto_region 18 with (fail)
      have HON2 : Hid (In w24 (if dd = k then some ⟨b, off, none⟩ else some ⟨b, off + k, none⟩) 1 (dd - k) [x]) := hide (by have h := HONE.out; simpa [Rep.size, add_at] using h)
      clear HONE
      obtain ⟨nx2, hbs, hmx2⟩ := HMX.out.step (d := x) HZB.out HMB.out HML.out
      have HMX2 := hide hmx2
      obtain ⟨pt, hpt⟩ : ∃ pt, ofDay at_ Z ms x = pt := ⟨_, rfl⟩
      have HPK : Hid (pickS wc ⟨#[97, 116]⟩ Z ms [x] = (0, pt)) := hide (by rw [pickS_ok HSM2.out, HAT.out, pickR_one, hpt])
      have HSN := hide (scheme_of (wCols_find HCM.out HZZ.out) HMX.out.bag fun y hy => by
        obtain ⟨y2, hy2, e⟩ := HMX.out.rows y hy
        rw [← e]
        rcases List.mem_append.1 hy2 with hy2 | hy2
        · exact HZR.out y2 hy2
        · exact HMR.out y2 hy2)
      have HSPT := hide (scheme_of (rows := pt) (wCols_find HCM.out HZZ.out) (by rw [← hpt]; exact bagErr_filter HMB.out _) fun y hy => by
        rw [← hpt] at hy
        exact HMR.out y (List.mem_filter.1 hy).1)
      have HRP : Hid (replS wc ⟨#[97, 116]⟩ Z now x pt = (0, nx2)) := hide (by
        rw [replS_bag HSN.out HSPT.out fun y hy => by
          rw [← hpt] at hy
          rw [HAT.out]
          simpa using (List.mem_filter.1 hy).2]
        rw [HAT.out, ← hpt]
        exact hbs)
      clear hbs hmx2 hpt
      have Rz0 := hide z0
      have Rz1 := hide z1
      have Rz2 := hide z2
      have RLZ := hide LZ
      have mk26 : True := trivial
      go_region_held3 (fun V => V.cell? ⟨w20.heap.size, 0, none⟩ = some (.string Z.name) ∧ V.cell? ⟨w20.heap.size, 1, none⟩ = some (.int .i64 Z.offset) ∧ V.cell? ⟨w20.heap.size, 2, none⟩ = some (.slice B4 m4 d4))
        (first | exact ⟨bat RB27.out RLZ.out Rz0.out, bat RB27.out RLZ.out Rz1.out, bat RB27.out RLZ.out Rz2.out⟩ | exact ⟨z0, z1, z2⟩)
        (first | (clear mk26; go_at_call 17; refine (pickR_ref _ _ _ _ wc (by exact HC.out.below (Below.refl _ _).drew) ⟨#[97, 116]⟩ _ _ _ Z (by exact HX.out.below (Below.refl _ _).drew) hoZ _ _ _ ms (by exact HM.out.below (Below.refl _ _).drew) _ 1 _ [x] (by exact HON2.out.below (Below.refl _ _).drew)).mono ?_; rintro e w27 ⟨⟨v5, rfl, ho5⟩, hb27⟩; have RB27 := hide (below_undrew hb27); rw [HPK.out] at ho5; rw [HPK.out]; obtain ⟨Ae, ce, hve, hine⟩ := ho5.inn; subst hve; have HPT := hide hine; clear ho5 hine; clear hb27; have mk27 : True := trivial))
      have hbR27 := RB27.out
      clear mk27
      have HC := hide (HC.out.below hbR27)
      have HX := hide (HX.out.below hbR27)
      have HR := hide (HR.out.below hbR27)
      have HM := hide (HM.out.below hbR27)
      have ID := hide (ID.out.below hbR27)
      have NOW := hide (NOW.out.below hbR27)
      have z0 := bat hbR27 LZ z0
      have z1 := bat hbR27 LZ z1
      have z2 := bat hbR27 LZ z2
      have LZ := lt_of_cell z0
      have e0 := bat hbR27 LDY e0
      have LDY := lt_of_cell e0
      have LST28 := hide hbR27
      have SG28 := hide (below_trans SG25.out hbR27)
      clear hbR27
      try simp only at HPT
      go_upto_region 19 with (fail)
      have Rz0 := hide z0
      have Rz1 := hide z1
      have Rz2 := hide z2
      have Re0 := hide e0
      have RLDY := hide LDY
      have RLZ := hide LZ
      have mk29 : True := trivial
      go_region_held3 (fun V => V.cell? ⟨w20.heap.size, 0, none⟩ = some (.string Z.name) ∧ V.cell? ⟨w20.heap.size, 1, none⟩ = some (.int .i64 Z.offset) ∧ V.cell? ⟨w20.heap.size, 2, none⟩ = some (.slice B4 m4 d4) ∧ V.cell? ⟨b, off + k, none⟩ = some (.int .i64 x))
        (first | exact ⟨bat RB30.out RLZ.out Rz0.out, bat RB30.out RLZ.out Rz1.out, bat RB30.out RLZ.out Rz2.out, bat RB30.out RLDY.out Re0.out⟩ | exact ⟨z0, z1, z2, e0⟩)
        (first | (clear mk29; go_at_call 20; refine (replP_any _ _ _ _ wc (by exact HC.out.below (Below.refl _ _).drew) ⟨#[97, 116]⟩ _ _ _ Z (by exact HX.out.below (Below.refl _ _).drew) hoZ _ _ _ now (by exact NOW.out.below (Below.refl _ _).drew) x _ _ _ pt (by exact HPT.out.below (Below.refl _ _).drew)).mono ?_; rintro e w30 ⟨⟨v6, rfl, ho6⟩, hb30⟩; have RB30 := hide (below_undrew hb30); rw [HRP.out] at ho6; rw [HRP.out]; obtain ⟨Af, cf, hvf, hinf⟩ := ho6.inn; subst hvf; have HNX := hide hinf; clear ho6 hinf; clear hb30; have mk30 : True := trivial))
      have hbR30 := RB30.out
      clear mk30
      have HC := hide (HC.out.below hbR30)
      have HX := hide (HX.out.below hbR30)
      have HR := hide (HR.out.below hbR30)
      have HM := hide (HM.out.below hbR30)
      have ID := hide (ID.out.below hbR30)
      have NOW := hide (NOW.out.below hbR30)
      have HPT := hide (HPT.out.below hbR30)
      have z0 := bat hbR30 LZ z0
      have z1 := bat hbR30 LZ z1
      have z2 := bat hbR30 LZ z2
      have LZ := lt_of_cell z0
      have e0 := bat hbR30 LDY e0
      have LDY := lt_of_cell e0
      have LST31 := hide hbR30
      have SG31 := hide (below_trans SG28.out hbR30)
      clear hbR30
      try simp only at HNX
      go_wp2
      all_goals (try (exfalso; go_light; simp_all; done))
      go_roundw
      case rel => exact ⟨k + 1, _, _, _, nx2, by omega, by go_num, rfl, HNX.out, by rw [HTK.out]; exact HMX2.out, SG31.out⟩
      case measure => simp [RowKit.intOf]; omega
    · have HFN := hide (HMX.out)
      have hft : days.take k = days := List.take_of_length_le (by rw [HMD.out]; omega)
      rw [hft] at HFN
      have hfe := HFN.out.fin HZB.out HMB.out HIS.out
      subst hfe
      go_wp2_with fail
      refine (sameEnts_any _ _ _ _ _ _ _ now now NOW.out HM.out).mono ?_
      rintro e w32 ⟨⟨r, rfl, hr⟩, hb32⟩
      have HC := hide (HC.out.below hb32)
      have HX := hide (HX.out.below hb32)
      have HR := hide (HR.out.below hb32)
      have HM := hide (HM.out.below hb32)
      have ID := hide (ID.out.below hb32)
      have NOW := hide (NOW.out.below hb32)
      have z0 := bat hb32 LZ z0
      have z1 := bat hb32 LZ z1
      have z2 := bat hb32 LZ z2
      have LZ := lt_of_cell z0
      have LST33 := hide hb32
      have SG33 := hide (below_trans SG23.out hb32)
      clear hb32
      obtain rfl := hr.2 rfl
      clear hr
      go_wp2_with fail
      refine (known_any _).mono ?_
      rintro e w34 ⟨rfl, hb34⟩
      have HC := hide (HC.out.below hb34)
      have HX := hide (HX.out.below hb34)
      have HR := hide (HR.out.below hb34)
      have HM := hide (HM.out.below hb34)
      have ID := hide (ID.out.below hb34)
      have NOW := hide (NOW.out.below hb34)
      have z0 := bat hb34 LZ z0
      have z1 := bat hb34 LZ z1
      have z2 := bat hb34 LZ z2
      have LZ := lt_of_cell z0
      have LST35 := hide hb34
      have SG35 := hide (below_trans SG33.out hb34)
      clear hb34
      go_wp2
      go_ret
      exact ⟨rfl, (below_trans SG22.out SG35.out)⟩
end Go.Proofs.YtlbhnfnecfllkaaGreat
