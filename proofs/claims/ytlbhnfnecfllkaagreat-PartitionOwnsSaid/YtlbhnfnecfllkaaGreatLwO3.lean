/-
  warehouselaw22.PartitionOwns. (Printed by gen_lwo.py.)
-/
import Derived.Test.YtlbhnfnecfllkaaGreatGag
import Derived.Test.YtlbhnfnecfllkaaGreatLwJ
namespace Go.Proofs.YtlbhnfnecfllkaaGreat
open Go.RowKit
set_option linter.unusedSimpArgs false
set_option linter.unusedVariables false

theorem OL.spl {lo hi B : Nat} {w w' : World} {v : Value} {xs : List Ent} (h : OE B w v xs) (hs : Spl lo hi w w') (hB : hi ≤ B) : OE B w' v xs :=
  h.kept (fun k hk => hs.out k (by
    rcases hk with (⟨q, _⟩ | ⟨q, _⟩) | hk
    · cases q
    · omega
    · have := (h.ty hk).1; omega)) (Nat.le_of_eq hs.size.symm)
/-- Partitions whose rows can be spoilt. -/
def PartsSp (lo hi : Nat) (w : World) (A : Option Addr) (n : Nat) : Prop := 0 < n → ∃ g, A = some ⟨g, 0, none⟩ ∧ ∃ cur : Array Value, w.heap[g]? = some (.cells cur 44 (0, 0)) ∧
  ∀ i, i < n → ∃ A' m c', cur[i * 2 + 1]? = some (.slice A' m c') ∧ m ≤ 9223372036854775807 ∧ ShapeE lo hi w A' m
theorem PartsSp.spl {lo hi lo' hi' : Nat} {w w' : World} {A : Option Addr} {n : Nat} (h : PartsSp lo hi w A n) (hs : Spl lo' hi' w w') : PartsSp lo hi w' A n := fun h0 => by
  obtain ⟨g, e, cur, hc, hi⟩ := h h0
  obtain ⟨cur', hc', hz, _, hk⟩ := hs.typed g cur _ hc
  obtain rfl := hk (by decide) (by decide)
  refine ⟨g, e, cur', hc', fun i hin => ?_⟩
  obtain ⟨A', m, c', a1, a2, a3⟩ := hi i hin
  exact ⟨A', m, c', a1, a2, a3.spl hs⟩
theorem PartsSp.below {lo hi : Nat} {w w' : World} {A : Option Addr} {n : Nat} (h : PartsSp lo hi w A n) (hb : Below w.heap.size w w') : PartsSp lo hi w' A n := fun h0 => by
  obtain ⟨g, e, cur, hc, hi⟩ := h h0
  refine ⟨g, e, cur, (hb.block g (TyAt.lt ⟨cur, hc⟩)).trans hc, fun i hin => ?_⟩
  obtain ⟨A', m, c', a1, a2, a3⟩ := hi i hin
  exact ⟨A', m, c', a1, a2, a3.below hb⟩
theorem PartsSp.row {lo hi : Nat} {w : World} {A : Option Addr} {n k : Nat} (h : PartsSp lo hi w A n) (hk : k < n) : ∃ g o A' m c', A = some ⟨g, o, none⟩ ∧ g < w.heap.size ∧ w.cell? ⟨g, o + k * 2 + 1, none⟩ = some (.slice A' m c') ∧ m ≤ 9223372036854775807 ∧ ShapeE lo hi w A' m := by
  obtain ⟨g, e, cur, hc, hi⟩ := h (by omega)
  obtain ⟨A', m, c', a1, a2, a3⟩ := hi k hk
  exact ⟨g, 0, A', m, c', e, TyAt.lt ⟨cur, hc⟩, by rw [cell_of_row w g _ cur _ (0, 0) hc, Nat.zero_add]; exact a1, a2, a3⟩
theorem PartsF.sp {lo : Nat} {w0 w : World} {A : Option Addr} {n c : Nat} {ps : List Partn} (h : PartsF lo w0 w (.slice A n c) ps) (hb : w0.heap.size ≤ w.heap.size) : PartsSp w0.heap.size w.heap.size w A n := fun h0 => by
  obtain ⟨cs, h1, h2⟩ := h
  rcases h1.2 with ⟨e, hz⟩ | ⟨g, cap, cur, e, hg, hh, hnc, _, hsz, htk⟩
  · injection e with _ e2 _
    omega
  · injection e with e1 e2 e3
    subst e1 e2 e3
    refine ⟨g, rfl, cur, hh, fun i hi => ?_⟩
    obtain ⟨u, _, h3, hf, _⟩ := h2.get i hi
    have hol := hf.ol hb
    obtain ⟨A', c', rfl⟩ := hol.form
    refine ⟨A', _, c', ?_, ?_, hol.shape⟩
    · rw [← htk, List.getElem?_take] at h3
      split at h3
      · rw [← Array.getElem?_toList]; exact h3
      · cases h3
    · obtain ⟨A9, c9, e9, h9⟩ := hol.inn
      exact h9.le
theorem PCells.cells {w0 w : World} : ∀ {ps : List Partn} {cs : List Value}, PCells w0 w cs ps → Cells w (fun k => k < w.heap.size) cs ps
  | [], _, h => h
  | p :: ps, _, ⟨u, c1, e, h1, h2, h3⟩ => by
    obtain ⟨A, c, rfl, hin⟩ := h1.sl
    exact ⟨_, c1, e, ⟨A, _, c, rfl, hin, h2⟩, PCells.cells h3⟩
theorem PartsF.inn {lo : Nat} {w0 w : World} {A : Option Addr} {n c : Nat} {ps : List Partn} (h : PartsF lo w0 w (.slice A n c) ps) (hn : ps.length = n) : In w A n c ps := by
  obtain ⟨cs, h1, h2⟩ := h
  obtain ⟨A', c', e, hs, _⟩ := sl_of_own (T := fun k => k < w.heap.size) h1 h2.cells (fun k hk => hk) rfl (fun g _ hg => hg.lt)
  injection e with e1 e2 e3
  subst e1 e2 e3
  exact hs
def daysO : List Int := [-1, 0, 3, 100, 101, 102]
theorem in_six (w : World) : In (w.alloc (.cells #[.int .i64 (-1), .int .i64 0, .int .i64 3, .int .i64 100, .int .i64 101, .int .i64 102] 3)) (some ⟨w.heap.size, 0, none⟩) 6 6 daysO := by
  refine ⟨rfl, Nat.le_refl _, by omega, (fun h => by cases h), fun _ => ⟨w.heap.size, 0, rfl, by simp, fun i hi => ?_⟩⟩
  have hi6 : i < 6 := hi
  refine ⟨[.int .i64 (daysO[i])], ⟨rfl, ?_⟩, fun j hj => ?_⟩
  · match i, hi6 with
    | 0, _ => exact (show I64 (-1) from ⟨by decide, by decide⟩)
    | 1, _ => exact (show I64 0 from ⟨by decide, by decide⟩)
    | 2, _ => exact (show I64 3 from ⟨by decide, by decide⟩)
    | 3, _ => exact (show I64 100 from ⟨by decide, by decide⟩)
    | 4, _ => exact (show I64 101 from ⟨by decide, by decide⟩)
    | 5, _ => exact (show I64 102 from ⟨by decide, by decide⟩)
  · have hj0 : j = 0 := by simpa using hj
    subst hj0
    rw [cell_of_row _ w.heap.size _ _ _ (0, 0) (heap_alloc_new w _)]
    match i, hi6 with
    | 0, _ => rfl
    | 1, _ => rfl
    | 2, _ => rfl
    | 3, _ => rfl
    | 4, _ => rfl
    | 5, _ => rfl
set_option maxHeartbeats 8000000 in
set_option maxRecDepth 100000 in
theorem lawO_any (w : World) (nn zz : Int) (A3 : Option Addr) (n3 c3 : Nat) (l : List Int) (hl : In w A3 n3 c3 l) :
    Calls Tryz.prog 8 #[.int .i64 nn, .int .i64 zz, .slice A3 n3 c3] w
      fun e w' => e = .returned (.bool true) ∧ Below w.heap.size w w' := by
  have h2 := hl.le
  by_cases q2 : 80 < n3
  · have d2 : (80 : Int) < (n3 : Int) := by omega
    go_enter Tryz.func8, Tryz.ntmps8
    go_wp2_with fail
    refine (known_any _).mono ?_
    rintro e w1 ⟨rfl, hb1⟩
    have LST2 := hide hb1
    have SG2 := hide hb1
    clear hb1
    go_wp2
    go_ret
    exact ⟨rfl, SG2.out⟩
  have d2 : ¬ (80 : Int) < (n3 : Int) := by omega
  have hn3 : n3 ≤ 80 := by omega
  go_enter Tryz.func8, Tryz.ntmps8
  have HL := hide hl
  clear hl
  go_wp2_with fail
  refine (tableL_any _ A3 n3 c3 l HL.out hn3 nn zz).mono ?_
  rintro e w20 ⟨⟨gb, B3, m3, wc, Z, B4, m4, d4, B5, m5, d5, zs, j, rfl, hoc, hcm, hinZ, hmZ, hin, hto, hnum, hgb⟩, hb20⟩
  have HL := hide (HL.out.below hb20)
  have LST3 := hide hb20
  have SG3 := hide hb20
  clear hb20
  obtain ⟨hzZ, hoZ⟩ := wZones_ok Z hmZ
  have HTO := hide hto
  have HSC := hide (hto.scheme hcm hzZ)
  have hcc := hoc.inn
  have hinZ := hinZ.inn
  have hin := hin.inn
  clear hto hnum hgb hoc
  have HC := hide hcc
  clear hcc
  have HX := hide hinZ
  clear hinZ
  have HR := hide hin
  clear hin
  go_wp2_with fail
  obtain ⟨W7, hW7⟩ : ∃ W, W = w20.alloc (.cells #[.string Z.name, .int .i64 Z.offset, .slice B4 m4 d4] 25) := ⟨_, rfl⟩
  have z0 : W7.cell? ⟨w20.heap.size, 0, none⟩ = some (.string Z.name) := by rw [hW7]; simp [go_sem]
  have z1 : W7.cell? ⟨w20.heap.size, 1, none⟩ = some (.int .i64 Z.offset) := by rw [hW7]; simp [go_sem]
  have z2 : W7.cell? ⟨w20.heap.size, 2, none⟩ = some (.slice B4 m4 d4) := by rw [hW7]; simp [go_sem]
  have hbW7 : Below w20.heap.size w20 W7 := by rw [hW7]; exact below_alloc
  have SZW7 : Hid (W7.heap.size = w20.heap.size + 1) := hide (by rw [hW7]; exact World.size_alloc _ _)
  rw [← hW7]
  clear hW7
  have HL := hide (HL.out.below hbW7)
  have HC := hide (HC.out.below hbW7)
  have HX := hide (HX.out.below hbW7)
  have HR := hide (HR.out.below hbW7)
  have LST4 := hide hbW7
  have SG4 := hide (below_trans SG3.out hbW7)
  clear hbW7
  have LZ := lt_of_cell z0
  have hbag := HTO.out.bag (by have := (wCols_good wc hcm).2; omega)
  have HJA := hide hbag.1
  have HRL : Hid (∀ x ∈ zs, x.row.length ≤ 4096) := hide fun x hx => by have := rowErr_len (hbag.2.1 x hx); have := (wCols_good wc hcm).2; omega
  have hzl : zs.length ≤ 1000 := hbag.2.2
  have hm5 : m5 ≤ 4096 := by have := HR.out.len; omega
  clear hbag
  have HR7 := hide HR.out
  have HW7 := hide SG4.out.size
  refine (copy_any _ B5 m5 d5 zs HR.out hm5 HRL.out).mono ?_
  rintro e w5 ⟨⟨Ag, cg, rfl, hog⟩, hb5⟩
  have HL := hide (HL.out.below hb5)
  have HC := hide (HC.out.below hb5)
  have HX := hide (HX.out.below hb5)
  have HR := hide (HR.out.below hb5)
  have z0 := bat hb5 LZ z0
  have z1 := bat hb5 LZ z1
  have z2 := bat hb5 LZ z2
  have LZ := lt_of_cell z0
  have LST6 := hide hb5
  have SG6 := hide (below_trans SG4.out hb5)
  clear hb5
  obtain ⟨W8, rfl⟩ : ∃ W, W = w5 := ⟨_, rfl⟩
  have HB78 := hide LST6.out
  have HW8 := hide SG6.out.size
  have HGS := hide hog.shape
  have hgi := In.ownS hog HR.out.len
  have HR8 := hide HR.out
  have HG8 := hide hgi
  clear hog
  have HG := hide hgi
  clear hgi
  obtain ⟨E1, hE1⟩ : ∃ E, schemeErr wc ⟨#[97, 116]⟩ Z zs = E := ⟨_, rfl⟩
  have HE1 := hide hE1
  rw [hE1] at HSC
  obtain rfl : E1 = 0 := HSC.out
  clear hE1
  go_wp2_with fail
  refine (splitF_any _ _ _ _ wc HC.out ⟨#[97, 116]⟩ _ _ _ Z HX.out hoZ _ _ _ zs HG.out).mono ?_
  rintro e w7 ⟨⟨B6, m6, d6, qs, rfl, hpf, hqm, hz3, hs3⟩, hb7⟩
  have HL := hide (HL.out.below hb7)
  have HC := hide (HC.out.below hb7)
  have HX := hide (HX.out.below hb7)
  have HR := hide (HR.out.below hb7)
  have HG := hide (HG.out.below hb7)
  have HGS := hide (HGS.out.below hb7)
  have z0 := bat hb7 LZ z0
  have z1 := bat hb7 LZ z1
  have z2 := bat hb7 LZ z2
  have LZ := lt_of_cell z0
  have LST8 := hide hb7
  have SG8 := hide hb7
  clear hb7
  rw [HE1.out] at hz3 hs3 ⊢
  have HJ : Hid (joinS qs = (0, zs) ∧ (∀ p ∈ qs, p.rows.length ≤ 1000) ∧ qs.length ≤ 1000) := hide ⟨join_split HJA.out (hs3 rfl), split_rows (hs3 rfl) hzl, split_le HTO.out hcm HE1.out (fun _ => hs3 rfl) rfl⟩
  have hm6 : m6 ≤ 1000 := by have := HJ.out.2.2; omega
  have HPS := hide (hpf.sp SG8.out.size)
  have hpi := hpf.inn hqm
  clear hz3 hs3 hcm hpf hqm
  have IQ := hide hpi
  clear hpi
  obtain ⟨W9, rfl⟩ : ∃ W, W = w7 := ⟨_, rfl⟩
  have HB89 := hide SG8.out
  obtain ⟨RS, hRS⟩ : ∃ R, joinS qs = R := ⟨_, rfl⟩
  have HRS := hide hRS
  have HRV := hide (HJ.out.1)
  rw [hRS] at HRV
  clear hRS
  go_wp2_with fail
  refine (join_any _ B6 m6 d6 qs IQ.out hm6 HJ.out.2.1).mono ?_
  rintro e w9 ⟨⟨v3, rfl, ho3⟩, hb9⟩
  have HL := hide (HL.out.below hb9)
  have HC := hide (HC.out.below hb9)
  have HX := hide (HX.out.below hb9)
  have HR := hide (HR.out.below hb9)
  have HG := hide (HG.out.below hb9)
  have HGS := hide (HGS.out.below hb9)
  have IQ := hide (IQ.out.below hb9)
  have HPS := hide (HPS.out.below hb9)
  have z0 := bat hb9 LZ z0
  have z1 := bat hb9 LZ z1
  have z2 := bat hb9 LZ z2
  have LZ := lt_of_cell z0
  have LST10 := hide hb9
  have SG10 := hide hb9
  clear hb9
  rw [HRS.out] at ho3 ⊢
  obtain rfl := HRV.out
  obtain ⟨Ac, cc, hvc⟩ := ho3.form
  subst hvc
  clear HRS HJ
  clear IQ
  have OB := hide ho3
  clear ho3
  obtain ⟨PK, hPK⟩ : ∃ P, pickS wc ⟨#[97, 116]⟩ Z zs daysO = P := ⟨_, rfl⟩
  have HPK := hide hPK
  clear hPK
  go_wp2_with fail
  obtain ⟨W10, hW10⟩ : ∃ W, W = w9.alloc (.cells #[.int .i64 (-1), .int .i64 0, .int .i64 3, .int .i64 100, .int .i64 101, .int .i64 102] 3) := ⟨_, rfl⟩
  have hdW10 : In W10 (some ⟨w9.heap.size, 0, none⟩) 6 6 daysO := by rw [hW10]; exact in_six _
  have hbW10 : Below w9.heap.size w9 W10 := by rw [hW10]; exact below_alloc
  rw [← hW10]
  clear hW10
  have HL := hide (HL.out.below hbW10)
  have HC := hide (HC.out.below hbW10)
  have HX := hide (HX.out.below hbW10)
  have HR := hide (HR.out.below hbW10)
  have HG := hide (HG.out.below hbW10)
  have HGS := hide (HGS.out.below hbW10)
  have HPS := hide (HPS.out.below hbW10)
  have OB := hide (OB.out.below hbW10)
  have z0 := bat hbW10 LZ z0
  have z1 := bat hbW10 LZ z1
  have z2 := bat hbW10 LZ z2
  have LZ := lt_of_cell z0
  have LST11 := hide hbW10
  have SG11 := hide (below_trans SG10.out hbW10)
  clear hbW10
  have hsW10 := SG11.out.size
  refine (pickP_any _ _ _ _ wc HC.out ⟨#[97, 116]⟩ _ _ _ Z HX.out hoZ _ _ _ zs HG.out _ _ _ daysO hdW10).mono ?_
  rintro e w12 ⟨⟨v4, rfl, ho4⟩, hb12⟩
  have HL := hide (HL.out.below hb12)
  have HC := hide (HC.out.below hb12)
  have HX := hide (HX.out.below hb12)
  have HR := hide (HR.out.below hb12)
  have HG := hide (HG.out.below hb12)
  have HGS := hide (HGS.out.below hb12)
  have HPS := hide (HPS.out.below hb12)
  have OB := hide (OB.out.below hb12)
  have z0 := bat hb12 LZ z0
  have z1 := bat hb12 LZ z1
  have z2 := bat hb12 LZ z2
  have LZ := lt_of_cell z0
  have LST13 := hide hb12
  have SG13 := hide (below_trans SG11.out hb12)
  clear hb12
  rw [HPK.out] at ho4 ⊢
  have ho4 := ho4.rebase hsW10
  obtain ⟨Ad, cd, hvd⟩ := ho4.form
  subst hvd
  clear hdW10 hsW10
  have OD := hide ho4
  clear ho4
  go_wp2_with fail
  obtain ⟨W11, hW11⟩ : ∃ W, W = w12.alloc (.cells #[.int .i64 (-1), .int .i64 0, .int .i64 3, .int .i64 100, .int .i64 101, .int .i64 102] 3) := ⟨_, rfl⟩
  have hdW11 : In W11 (some ⟨w12.heap.size, 0, none⟩) 6 6 daysO := by rw [hW11]; exact in_six _
  have hbW11 : Below w12.heap.size w12 W11 := by rw [hW11]; exact below_alloc
  rw [← hW11]
  clear hW11
  have HL := hide (HL.out.below hbW11)
  have HC := hide (HC.out.below hbW11)
  have HX := hide (HX.out.below hbW11)
  have HR := hide (HR.out.below hbW11)
  have HG := hide (HG.out.below hbW11)
  have HGS := hide (HGS.out.below hbW11)
  have HPS := hide (HPS.out.below hbW11)
  have OB := hide (OB.out.below hbW11)
  have OD := hide (OD.out.below hbW11)
  have z0 := bat hbW11 LZ z0
  have z1 := bat hbW11 LZ z1
  have z2 := bat hbW11 LZ z2
  have LZ := lt_of_cell z0
  have LST14 := hide hbW11
  have SG14 := hide (below_trans SG13.out hbW11)
  clear hbW11
  have hsW11 := SG14.out.size
  refine (pickR_ref _ _ _ _ wc HC.out ⟨#[97, 116]⟩ _ _ _ Z HX.out hoZ _ _ _ zs HR.out _ _ _ daysO hdW11).mono ?_
  rintro e w15 ⟨⟨v5, rfl, ho5⟩, hb15⟩
  have HL := hide (HL.out.below hb15)
  have HC := hide (HC.out.below hb15)
  have HX := hide (HX.out.below hb15)
  have HR := hide (HR.out.below hb15)
  have HG := hide (HG.out.below hb15)
  have HGS := hide (HGS.out.below hb15)
  have HPS := hide (HPS.out.below hb15)
  have OB := hide (OB.out.below hb15)
  have OD := hide (OD.out.below hb15)
  have z0 := bat hb15 LZ z0
  have z1 := bat hb15 LZ z1
  have z2 := bat hb15 LZ z2
  have LZ := lt_of_cell z0
  have LST16 := hide hb15
  have SG16 := hide (below_trans SG14.out hb15)
  clear hb15
  rw [HPK.out] at ho5 ⊢
  have ho5 := ho5.rebase hsW11
  obtain ⟨Ae, ce, hve⟩ := ho5.form
  subst hve
  clear hdW11 hsW11
  have OW := hide ho5
  clear ho5
  obtain ⟨pe, pz⟩ := PK
  go_wp2_with fail
  refine (sameEnts_any _ _ _ _ _ _ _ zs zs HG.out HR.out).mono ?_
  rintro e w17 ⟨⟨r1, rfl, hq1⟩, hb17⟩
  have HL := hide (HL.out.below hb17)
  have HC := hide (HC.out.below hb17)
  have HX := hide (HX.out.below hb17)
  have HR := hide (HR.out.below hb17)
  have HG := hide (HG.out.below hb17)
  have HGS := hide (HGS.out.below hb17)
  have HPS := hide (HPS.out.below hb17)
  have OB := hide (OB.out.below hb17)
  have OD := hide (OD.out.below hb17)
  have OW := hide (OW.out.below hb17)
  have z0 := bat hb17 LZ z0
  have z1 := bat hb17 LZ z1
  have z2 := bat hb17 LZ z2
  have LZ := lt_of_cell z0
  have LST18 := hide hb17
  have SG18 := hide (below_trans SG16.out hb17)
  clear hb17
  obtain rfl := hq1.2 rfl
  clear hq1
  obtain ⟨W12, rfl⟩ : ∃ W, W = w17 := ⟨_, rfl⟩
  have HB812 := hide (below_trans HB89.out SG18.out)
  have HS912 := hide SG18.out.size
  have HBB := hide (below_trans (below_trans SG6.out SG8.out) SG18.out)
  clear HG
  clear HR
  clear HC
  clear HX
  clear LZ z0 z1 z2
  clear HL
  go_wp2
  go_loopw [70] (fun i wr => ∃ k : Nat, k ≤ m6 ∧ i = .int .i64 k ∧ Spl W8.heap.size W9.heap.size W12 wr) (fun i _ => m6 - (RowKit.intOf i).toNat)
  case atStart => exact ⟨0, Nat.zero_le _, rfl, Spl.refl _ _ _⟩
  case round =>
    obtain ⟨k, hk, rfl, hsp⟩ := hrel
    have HSP := hide hsp
    by_cases hlt : k < m6
    · obtain ⟨g, o, A', m, c', rfl, hg, e0, hm, hsh⟩ := (HPS.out.spl hsp).row hlt
      have k0 : (0 : Int) ≤ (k : Int) := by omega
      have k1 : (k : Int) < (m6 : Int) := by omega
      have HSH := hide hsh
      clear hsp hsh
      go_wp2_with fail
      refine (spoil_any _ A' m c' W8.heap.size W9.heap.size hm HSH.out).mono ?_
      rintro e w50 ⟨rfl, hs50⟩
      have HS50 := hide (HSP.out.trans hs50)
      clear hs50 e0
      go_wp2
      go_roundw
      case rel => exact ⟨k + 1, by omega, by go_num, HS50.out⟩
      case measure => simp [RowKit.intOf]; omega
    · clear hsp
      have hb8 := HB812.out.trans HSP.out.below
      have hg := HG8.out.below hb8
      have hr := HR8.out.below hb8
      have hgs := HGS.out.spl HSP.out
      have ob := OB.out.spl HSP.out (Nat.le_refl _)
      have od := OD.out.spl HSP.out (Nat.le_refl _)
      have ow := OW.out.spl HSP.out (Nat.le_refl _)
      have HBW := hide (HBB.out.trans (HSP.out.below.mono (show w.heap.size ≤ W8.heap.size from HW8.out)))
      have HB8W := hide hb8
      clear hb8 OB OD OW HGS
      clear HPS
      have HG := hide hg
      clear hg
      have HR := hide hr
      clear hr
      have HGS := hide hgs
      clear hgs
      have OB := hide ob
      clear ob
      have OD := hide od
      clear od
      have OW := hide ow
      clear ow
      go_wp2_with fail
      refine (sameEnts_any _ _ _ _ _ _ _ zs zs HG.out HR.out).mono ?_
      rintro e w19 ⟨⟨r2, rfl, hq2⟩, hb19⟩
      have HG := hide (HG.out.below hb19)
      have HR := hide (HR.out.below hb19)
      have HGS := hide (HGS.out.below hb19)
      have OB := hide (OB.out.below hb19)
      have OD := hide (OD.out.below hb19)
      have OW := hide (OW.out.below hb19)
      have LST20 := hide hb19
      have SG20 := hide hb19
      clear hb19
      obtain rfl := hq2.2 rfl
      clear hq2
      go_wp2_with fail
      refine (sameEnts_any _ _ _ _ _ _ _ zs zs (In.ownS OB.out rfl) HR.out).mono ?_
      rintro e w21 ⟨⟨r3, rfl, hq3⟩, hb21⟩
      have HG := hide (HG.out.below hb21)
      have HR := hide (HR.out.below hb21)
      have HGS := hide (HGS.out.below hb21)
      have OB := hide (OB.out.below hb21)
      have OD := hide (OD.out.below hb21)
      have OW := hide (OW.out.below hb21)
      have LST22 := hide hb21
      have SG22 := hide (below_trans SG20.out hb21)
      clear hb21
      obtain rfl := hq3.2 rfl
      clear hq3
      go_wp2_with fail
      refine (sameEnts_any _ _ _ _ _ _ _ pz pz (In.ownS OD.out rfl) (In.ownS OW.out rfl)).mono ?_
      rintro e w23 ⟨⟨r4, rfl, hq4⟩, hb23⟩
      have HG := hide (HG.out.below hb23)
      have HR := hide (HR.out.below hb23)
      have HGS := hide (HGS.out.below hb23)
      have OB := hide (OB.out.below hb23)
      have OD := hide (OD.out.below hb23)
      have OW := hide (OW.out.below hb23)
      have LST24 := hide hb23
      have SG24 := hide (below_trans SG22.out hb23)
      clear hb23
      obtain rfl := hq4.2 rfl
      clear hq4
      have hm63 : m5 ≤ 9223372036854775807 := by omega
      go_wp2_with fail
      refine (spoil_any _ Ag m5 cg W7.heap.size W8.heap.size hm63 HGS.out).mono ?_
      rintro e w60 ⟨rfl, hs60⟩
      have hr6 := HR7.out.below (HB78.out.trans (((HB8W.out.trans (SG24.out.mono (HB8W.out.size))).mono HB78.out.size).trans hs60.below))
      have ob6 := OB.out.spl hs60 HB89.out.size
      have od6 := OD.out.spl hs60 HB89.out.size
      have ow6 := OW.out.spl hs60 HB89.out.size
      have HBZ := hide ((below_trans HBW.out SG24.out).trans (hs60.below.mono HW7.out))
      clear hs60
      clear HG
      clear HR
      clear HGS
      clear OB
      clear OD
      clear OW
      have HR := hide hr6
      clear hr6
      have OB := hide ob6
      clear ob6
      have OD := hide od6
      clear od6
      have OW := hide ow6
      clear ow6
      go_wp2_with fail
      refine (sameEnts_any _ _ _ _ _ _ _ zs zs (In.ownS OB.out rfl) HR.out).mono ?_
      rintro e w25 ⟨⟨r5, rfl, hq5⟩, hb25⟩
      have HR := hide (HR.out.below hb25)
      have OB := hide (OB.out.below hb25)
      have OD := hide (OD.out.below hb25)
      have OW := hide (OW.out.below hb25)
      have LST26 := hide hb25
      have SG26 := hide (below_trans HBZ.out hb25)
      clear hb25
      obtain rfl := hq5.2 rfl
      clear hq5
      go_wp2_with fail
      refine (sameEnts_any _ _ _ _ _ _ _ pz pz (In.ownS OD.out rfl) (In.ownS OW.out rfl)).mono ?_
      rintro e w27 ⟨⟨r6, rfl, hq6⟩, hb27⟩
      have HR := hide (HR.out.below hb27)
      have OB := hide (OB.out.below hb27)
      have OD := hide (OD.out.below hb27)
      have OW := hide (OW.out.below hb27)
      have LST28 := hide hb27
      have SG28 := hide (below_trans SG26.out hb27)
      clear hb27
      obtain rfl := hq6.2 rfl
      clear hq6
      go_wp2_with fail
      refine (known_any _).mono ?_
      rintro e w29 ⟨rfl, hb29⟩
      have HR := hide (HR.out.below hb29)
      have OB := hide (OB.out.below hb29)
      have OD := hide (OD.out.below hb29)
      have OW := hide (OW.out.below hb29)
      have LST30 := hide hb29
      have SG30 := hide (below_trans SG28.out hb29)
      clear hb29
      go_wp2
      go_ret
      exact ⟨rfl, SG30.out⟩
end Go.Proofs.YtlbhnfnecfllkaaGreat
