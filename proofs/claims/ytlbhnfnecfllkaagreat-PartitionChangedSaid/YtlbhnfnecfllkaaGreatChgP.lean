/-
  partition.Changed: the days for which two bags differ.
-/
import Derived.Test.YtlbhnfnecfllkaaGreatSameP
import Derived.Test.YtlbhnfnecfllkaaGreatCmpI
import Derived.Test.YtlbhnfnecfllkaaGreatLwK
namespace Go.Proofs.YtlbhnfnecfllkaaGreat
open Go.RowKit
set_option linter.unusedSimpArgs false
set_option linter.unusedVariables false

def chgErr (cols : List Col) (col : ByteArray) (z : Zone) (old new : List Ent) : Int := if schemeErr cols col z old ≠ 0 then schemeErr cols col z old else schemeErr cols col z new
/-- The changed days of the first k. -/
structure Chg (at_ : Int) (z : Zone) (old new : List Ent) (ks : List Int) (k : Nat) (cs : List Int) : Prop where
  asc : Asc cs
  mem : ∀ d, d ∈ cs ↔ d ∈ ks.take k ∧ ofDay at_ z old d ≠ ofDay at_ z new d
  len : cs.length ≤ k
theorem Chg.start (at_ : Int) (z : Zone) (old new : List Ent) (ks : List Int) : Chg at_ z old new ks 0 [] := ⟨List.Pairwise.nil, by simp, by simp⟩
theorem Chg.skip {at_ : Int} {z : Zone} {old new : List Ent} {ks cs l : List Int} {k : Nat} {d : Int} (h : Chg at_ z old new ks k cs) (hd : ks.drop k = d :: l) (he : ofDay at_ z old d = ofDay at_ z new d) : Chg at_ z old new ks (k + 1) cs :=
  ⟨h.asc, fun x => by
    rw [h.mem, take_snoc hd]
    simp only [List.mem_append, List.mem_singleton]
    constructor
    · rintro ⟨a, b⟩; exact ⟨.inl a, b⟩
    · rintro ⟨a | a, b⟩
      · exact ⟨a, b⟩
      · subst a; exact absurd he b, by have := h.len; omega⟩
theorem Chg.take {at_ : Int} {z : Zone} {old new : List Ent} {ks cs l : List Int} {k : Nat} {d : Int} (h : Chg at_ z old new ks k cs) (ha : Asc ks) (hd : ks.drop k = d :: l) (he : ofDay at_ z old d ≠ ofDay at_ z new d) : Chg at_ z old new ks (k + 1) (cs ++ [d]) :=
  ⟨List.pairwise_append.2 ⟨h.asc, List.pairwise_singleton _ _, fun a h1 b h2 => by
    simp at h2; subst h2
    have h3 := ha
    rw [← List.take_append_drop k ks, hd] at h3
    exact (List.pairwise_append.1 h3).2.2 a ((h.mem a).1 h1).1 b (by simp)⟩, fun x => by
    rw [take_snoc hd]
    simp only [List.mem_append, List.mem_singleton, h.mem]
    constructor
    · rintro (⟨a, b⟩ | a)
      · exact ⟨.inl a, b⟩
      · subst a; exact ⟨.inr rfl, he⟩
    · rintro ⟨a | a, b⟩
      · exact .inl ⟨a, b⟩
      · exact .inr a, by have := h.len; simp; omega⟩
theorem day_of_ne {at_ : Int} {z : Zone} {old new : List Ent} {d : Int} (h : ofDay at_ z old d ≠ ofDay at_ z new d) : d ∈ daysR at_ z old ∨ d ∈ daysR at_ z new := by
  have g : ∀ l : List Ent, d ∉ daysR at_ z l → ofDay at_ z l d = [] := fun l hl => List.filter_eq_nil_iff.2 fun x hx q => hl (List.mem_map.2 ⟨x, hx, by simpa using q⟩)
  by_cases h1 : d ∈ daysR at_ z old
  · exact .inl h1
  · by_cases h2 : d ∈ daysR at_ z new
    · exact .inr h2
    · exact absurd ((g old h1).trans (g new h2).symm) h
theorem Chg.fin {at_ : Int} {z : Zone} {old new : List Ent} {ks cs : List Int} (h : Chg at_ z old new ks ks.length cs) (hk : ∀ d, d ∈ ks ↔ d ∈ daysR at_ z old ∨ d ∈ daysR at_ z new) : IsChanged at_ z old new cs :=
  ⟨h.asc, fun d => by
    rw [h.mem, List.take_of_length_le (Nat.le_refl _), hk]
    exact ⟨fun q => q.2, fun q => ⟨day_of_ne q, q⟩⟩⟩
theorem merge_asc (l : List Int) : (l.mergeSort fun x y => decide (x ≤ y)).Pairwise (· ≤ ·) := by
  have := List.pairwise_mergeSort (le := fun x y : Int => decide (x ≤ y)) (fun a b c h1 h2 => by simp at *; omega) (fun a b => by simp; omega) l
  exact this.imp fun h => by simpa using h
theorem keys_mem {H : Type} {P : Program} {K : TypeId} {R : Value → Option (DataW H × List MemPlace)} {w : World} {b n : Nat} {D : DataW H} (h : w.ownsMap P K R b n D) (hK : P.underlying K = some (.int .i64)) : ∀ d, d ∈ intKeys D ↔ Maps.has D (.int .i64 d) = true := fun d => by
  rw [← (sorted_asc h hK (List.Perm.refl _)).2.1 d, List.mem_mergeSort]
theorem keys_i64 {H : Type} {P : Program} {K : TypeId} {R : Value → Option (DataW H × List MemPlace)} {w : World} {b n : Nat} {D : DataW H} (h : w.ownsMap P K R b n D) (hK : P.underlying K = some (.int .i64)) : ∀ d ∈ intKeys D, I64 d := fun d hd =>
  (sorted_asc h hK (List.Perm.refl _)).2.2 d (List.mem_mergeSort.2 hd)
theorem keys_len {H : Type} {P : Program} {K : TypeId} {R : Value → Option (DataW H × List MemPlace)} {w : World} {b n : Nat} {D : DataW H} (h : w.ownsMap P K R b n D) : (intKeys D).length ≤ n := by
  have h1 := size_le h
  have : (intKeys D).length = Maps.size D := by cases D <;> simp [intKeys, Maps.size]
  omega
theorem own_map_below {P : Program} {K : TypeId} {H : Type} {R : Value → Option (DataW H × List MemPlace)} {w w1 : World} {b n : Nat} {D : DataW H} (h : w.ownsMap P K R b n D) (hb : Below w.heap.size w w1) : w1.ownsMap P K R b n D := by
  have hbl := h.lt
  obtain ⟨es, clock, h1, Ft, hs, hD⟩ := h
  exact ⟨es, clock, (hb.block b hbl).trans h1, Ft, hs, hD⟩
theorem ownI_in {B : Nat} {w : World} {v : Value} {ks : List Int} (h : OwnI B w v ks) (hk : ∀ d ∈ ks, I64 d) : ∃ A c, v = .slice A ks.length c ∧ In w A ks.length c ks := by
  have hc : Cells w (fun k => k < w.heap.size) (ks.map encZ) ks := by
    have := cells_flat w (fun k => k < w.heap.size) hk
    rw [flat_ints] at this
    exact this
  obtain ⟨A, c, e, hs, _⟩ := sl_of_own (T := fun k => k < w.heap.size) h hc (fun _ h => h) rfl (fun g _ hg => hg.lt)
  exact ⟨A, c, e, hs⟩
set_option maxHeartbeats 8000000 in
set_option maxRecDepth 100000 in
theorem chgP_any (w : World) (A1 : Option Addr) (n1 c1 : Nat) (cols : List Col) (hc : In w A1 n1 c1 cols) (col : ByteArray) (A : Option Addr) (n c : Nat) (z : Zone) (hx : In w A n c z.shifts) (ho : I64 z.offset) (A2 : Option Addr) (n2 c2 : Nat) (old : List Ent) (hr : In w A2 n2 c2 old) (A3 : Option Addr) (n3 c3 : Nat) (new : List Ent) (hp : In w A3 n3 c3 new) :
    Calls Tryz.prog 24 #[.slice A1 n1 c1, .string col, .agg #[.string z.name, .int .i64 z.offset, .slice A n c], .slice A2 n2 c2, .slice A3 n3 c3] w
      fun e w' => (∃ B m d ds, e = .returned (.tuple #[.slice B m d, .int .i64 (chgErr cols col z old new)]) ∧ In w' B m d ds ∧ (chgErr cols col z old new ≠ 0 → ds = []) ∧ (chgErr cols col z old new = 0 → IsChanged (findS cols col z).1 z old new ds)) ∧ Below w.heap.size w w' := by
  have HF1 := hide (scheme_fit (cols := cols) (col := col) (z := z) (rows := old))
  have HF2 := hide (scheme_fit (cols := cols) (col := col) (z := z) (rows := new))
  obtain ⟨R, hR⟩ : ∃ R, chgErr cols col z old new = R := ⟨_, rfl⟩
  have HR0 := hR
  rw [hR]
  obtain ⟨E, hE⟩ : ∃ E, schemeErr cols col z old = E := ⟨_, rfl⟩
  have HE := hide hE
  obtain ⟨E2, hE2⟩ : ∃ E, schemeErr cols col z new = E := ⟨_, rfl⟩
  have HE2 := hide hE2
  rw [chgErr, hE, hE2] at HR0
  have HRR := hide HR0
  clear hE hR hE2 HR0
  obtain ⟨at_, hat⟩ : ∃ at_, (findS cols col z).1 = at_ := ⟨_, rfl⟩
  have HAT := hide hat
  rw [hat] at HF1 HF2 ⊢
  clear hat
  have hn2 := hr.len
  have hn3 := hp.len
  have h63 := hp.le
  have h64 := hr.le
  go_enter Tryz.func24, Tryz.ntmps24
  go_upto_region 1 with (fail)
  have HC := hide hc
  clear hc
  have HZ := hide hx
  clear hx
  have HO := hide hr
  clear hr
  have HN := hide hp
  clear hp
  obtain ⟨W1, hW1⟩ : ∃ W, W = w.alloc (.cells #[.string z.name, .int .i64 z.offset, .slice A n c] 25) := ⟨_, rfl⟩
  have g0 : W1.cell? ⟨w.heap.size, 0, none⟩ = some (.string z.name) := by rw [hW1]; simp [go_sem]
  have g1 : W1.cell? ⟨w.heap.size, 1, none⟩ = some (.int .i64 z.offset) := by rw [hW1]; simp [go_sem]
  have g2 : W1.cell? ⟨w.heap.size, 2, none⟩ = some (.slice A n c) := by rw [hW1]; simp [go_sem]
  have hbW1 : Below w.heap.size w W1 := by rw [hW1]; exact below_alloc
  have SZW1 : Hid (W1.heap.size = w.heap.size + 1) := hide (by rw [hW1]; exact World.size_alloc _ _)
  rw [← hW1]
  clear hW1
  have HC := hide (HC.out.below hbW1)
  have HZ := hide (HZ.out.below hbW1)
  have HO := hide (HO.out.below hbW1)
  have HN := hide (HN.out.below hbW1)
  have LST1 := hide hbW1
  have SG1 := hide hbW1
  clear hbW1
  have LZ := lt_of_cell g0
  go_wp2_with fail
  refine (checkP_any _ _ _ _ cols HC.out col A n c z HZ.out ho _ _ _ old HO.out).mono ?_
  rintro e w2 ⟨rfl, hb2⟩
  have HC := hide (HC.out.below hb2)
  have HZ := hide (HZ.out.below hb2)
  have HO := hide (HO.out.below hb2)
  have HN := hide (HN.out.below hb2)
  have g0 := bat hb2 LZ g0
  have g1 := bat hb2 LZ g1
  have g2 := bat hb2 LZ g2
  have LZ := lt_of_cell g0
  have LST3 := hide hb2
  have SG3 := hide (below_trans SG1.out hb2)
  clear hb2
  rw [HE.out, HAT.out]
  by_cases h0 : E = 0
  · subst h0
    go_wp2_with fail
    refine (checkP_any _ _ _ _ cols HC.out col A n c z HZ.out ho _ _ _ new HN.out).mono ?_
    rintro e w4 ⟨rfl, hb4⟩
    have HC := hide (HC.out.below hb4)
    have HZ := hide (HZ.out.below hb4)
    have HO := hide (HO.out.below hb4)
    have HN := hide (HN.out.below hb4)
    have g0 := bat hb4 LZ g0
    have g1 := bat hb4 LZ g1
    have g2 := bat hb4 LZ g2
    have LZ := lt_of_cell g0
    have LST5 := hide hb4
    have SG5 := hide (below_trans SG3.out hb4)
    clear hb4
    rw [HE2.out]
    by_cases h2 : E2 = 0
    · subst h2
      have hR0 : R = 0 := by rw [← HRR.out]; simp
      subst hR0
      obtain ⟨f1, f2, f3⟩ := HF1.out HE.out
      obtain ⟨f4, f5, f6⟩ := HF2.out HE2.out
      have K1 := hide f1
      have K2 := hide f2
      have K4 := hide f4
      have K5 := hide f5
      have hn2' : n2 ≤ 4096 := by omega
      have hn3' : n3 ≤ 4096 := by omega
      have hl2 : old.length ≤ 4096 := by omega
      have hl3 : new.length ≤ 4096 := by omega
      clear f1 f2 f3 f4 f5 f6 HF1 HF2
      go_upto_region 6 with (fail)
      have Rg0 := hide g0
      have Rg1 := hide g1
      have Rg2 := hide g2
      have RLZ := hide LZ
      have mk6 : True := trivial
      go_region_held3 (fun V => V.cell? ⟨w.heap.size, 0, none⟩ = some (.string z.name) ∧ V.cell? ⟨w.heap.size, 1, none⟩ = some (.int .i64 z.offset) ∧ V.cell? ⟨w.heap.size, 2, none⟩ = some (.slice A n c))
        (first | exact ⟨bat RB8.out RLZ.out Rg0.out, bat RB8.out RLZ.out Rg1.out, bat RB8.out RLZ.out Rg2.out⟩ | exact ⟨bat RB7.out RLZ.out Rg0.out, bat RB7.out RLZ.out Rg1.out, bat RB7.out RLZ.out Rg2.out⟩ | exact ⟨g0, g1, g2⟩)
        (first | (clear mk6; go_at_call 36; refine (byDay_any _ A n c z (by exact HZ.out.below (Below.refl _ _).drew) ho _ _ _ old (by exact HO.out.below (Below.refl _ _).drew) (by omega) at_ K1.out K2.out).mono ?_; rintro e w7 ⟨⟨mb1, rfl, hm1⟩, hb7⟩; have RB7 := hide (below_undrew hb7); have HM1 := hide hm1; clear hm1; clear hb7; have mk7 : True := trivial) | (clear mk7; go_at_call 36; refine (byDay_any _ A n c z (by exact HZ.out.below RB7.out) ho _ _ _ new (by exact HN.out.below RB7.out) (by omega) at_ K4.out K5.out).mono ?_; rintro e w8 ⟨⟨mb2, rfl, hm2⟩, hb8⟩; have RB8 := hide (below_trans RB7.out hb8); have HM2 := hide hm2; have HM1 := hide (HM1.out.below hb8); clear hm2; clear hb8; have mk8 : True := trivial))
      have hbR8 := RB8.out
      clear mk8
      have HC := hide (HC.out.below hbR8)
      have HZ := hide (HZ.out.below hbR8)
      have HO := hide (HO.out.below hbR8)
      have HN := hide (HN.out.below hbR8)
      have g0 := bat hbR8 LZ g0
      have g1 := bat hbR8 LZ g1
      have g2 := bat hbR8 LZ g2
      have LZ := lt_of_cell g0
      have LST9 := hide hbR8
      have SG9 := hide (below_trans SG5.out hbR8)
      clear hbR8
      clear HC
      clear HZ
      clear HO
      clear HN
      clear LZ g0 g1 g2
      obtain ⟨D1, f1, own1, _, _, _, keys1, _⟩ := HM1.out
      obtain ⟨D2, f2, own2, _, _, _, keys2, _⟩ := HM2.out
      have km1 := hide (fun d => (keys_mem own1 Tryz.underlying3 d).trans (keys1 d))
      have km2 := hide (fun d => (keys_mem own2 Tryz.underlying3 d).trans (keys2 d))
      have ki1 := hide (keys_i64 own1 Tryz.underlying3)
      have ki2 := hide (keys_i64 own2 Tryz.underlying3)
      have ks1 := size_le own1
      have ks2 := size_le own2
      have kl1 := keys_len own1
      have kl2 := keys_len own2
      have OW1 := hide own1
      have OW2 := hide own2
      clear own1 own2 keys1 keys2
      go_wp2_with fail
      refine (keys_call _ _).mono ?_
      rintro e w6 ⟨rfl, rfl⟩
      have hb6 : Below w8.heap.size w8 (w8.alloc (.cells #[.map (some mb1)] 73)) := below_alloc
      have HB6 := hide hb6
      have own6 : (w8.alloc (.cells #[.map (some mb1)] 73)).ownsMap Tryz.prog 3 RV mb1 old.length D1 := by
        exact own_map_below OW1.out below_alloc
      clear hb6
      go_wp2_with fail
      refine (collect_call w8.heap.size mb1 _ D1 RV _ (by simp) (by simp [go_sem]) own6 (by unfold maxLen; omega) (by omega)).mono ?_
      rintro e w7 ⟨v7, ss1, rfl, hp1, hrow1, hb7⟩
      have HB7 := hide (below_trans HB6.out hb7)
      have HR7 := hide (own_base (B0 := w8.heap.size) hrow1 HB6.out.size)
      have HP1 := hide hp1
      clear own6 hrow1 hb7 hp1
      obtain ⟨A7, c7, hv7⟩ := own_formS HR7.out
      subst hv7
      go_wp2_with fail
      refine (keys_call _ _).mono ?_
      rintro e w8 ⟨rfl, rfl⟩
      have own8 : (w7.alloc (.cells #[.map (some mb2)] 73)).ownsMap Tryz.prog 3 RV mb2 new.length D2 := by
        exact own_map_below (own_map_below OW2.out HB7.out) below_alloc
      have HR8 := hide (HR7.out.alloc (.cells #[.map (some mb2)] 73))
      have hpl1 : ss1.length ≤ 4096 := by rw [HP1.out.length_eq]; omega
      have HSZ7 := hide HB7.out.size
      go_wp2_with fail
      refine (appendSeq_call w7.heap.size mb2 _ w8.heap.size D2 RV _ (by simp) (by simp [go_sem]) own8 _ ss1 (Nat.le_trans HSZ7.out (by simp)) HR8.out (by unfold maxLen; omega) (by omega)).mono ?_
      rintro e w9 ⟨v9, ss2, rfl, hp2, hrow2, hb9⟩
      have hpl2 : ss2.length ≤ 4096 := by rw [hp2.length_eq]; omega
      have HP2 := hide hp2
      have HR9 := hide hrow2
      have HB9 : Hid (Below w8.heap.size w8 w9) := hide ((below_trans HB7.out below_alloc).trans hb9)
      have hall : (ss1 ++ ss2).length ≤ 8192 := by rw [List.length_append]; omega
      have HMA : Hid (∀ d, d ∈ ss1 ++ ss2 ↔ d ∈ daysR at_ z old ∨ d ∈ daysR at_ z new) := hide fun d => by
        rw [List.mem_append, HP1.out.mem_iff, HP2.out.mem_iff, km1.out, km2.out]; rfl
      have HIA : Hid (∀ d ∈ ss1 ++ ss2, I64 d) := hide fun d hd => by
        rcases List.mem_append.1 hd with h | h
        · exact ki1.out d (HP1.out.mem_iff.1 h)
        · exact ki2.out d (HP2.out.mem_iff.1 h)
      clear own8 hrow2 hb9 hp2 hpl1 hpl2
      generalize ss1 ++ ss2 = all at *
      obtain ⟨A9, c9, hv9⟩ := own_formS HR9.out
      subst hv9
      go_wp2_with fail
      refine (sort_own _ w8.heap.size _ all HR9.out (by omega)).mono ?_
      rintro e w10 ⟨rfl, hrow10, hg10⟩
      have hml : (all.mergeSort fun x y => decide (x ≤ y)).length = all.length := List.length_mergeSort _
      have HB10 : Hid (Below w8.heap.size w8 w10) := hide (HB9.out.grown hg10 HB9.out.size fun k e => (HR9.out.lt k e).1)
      have HMS : Hid (∀ d, d ∈ (all.mergeSort fun x y => decide (x ≤ y)) ↔ d ∈ all) := hide fun d => List.mem_mergeSort
      have HAS := hide (merge_asc all)
      rw [← hml] at hrow10
      generalize hso : (all.mergeSort fun x y => decide (x ≤ y)) = so at *
      have HR10 : Hid (OwnI w8.heap.size w10 (.slice A9 so.length c9) so) := hide hrow10
      clear hrow10 hg10
      rw [← hml]
      have hsl : so.length ≤ 8192 := by omega
      clear hml hso
      go_wp2_with fail
      refine (compact_own _ w8.heap.size _ so HR10.out (by omega)).mono ?_
      rintro e w11 ⟨⟨u11, rfl, hrow11⟩, hg11⟩
      have HB11 : Hid (Below w8.heap.size w8 w11) := hide (HB10.out.grown hg11 HB10.out.size fun k e => (HR10.out.lt k e).1)
      obtain ⟨hca, hcm⟩ := compact_sorted HAS.out
      have hcl := compact_len so
      have HKM : Hid (∀ d, d ∈ Lib.compact so ↔ d ∈ daysR at_ z old ∨ d ∈ daysR at_ z new) := hide fun d => by rw [hcm, HMS.out, HMA.out]
      have HKI : Hid (∀ d ∈ Lib.compact so, I64 d) := hide fun d hd => HIA.out d ((HMS.out d).1 ((hcm d).1 hd))
      have HKA := hide hca
      obtain ⟨A11, c11, hv11, hin11⟩ := ownI_in hrow11 HKI.out
      subst hv11
      have HI11 := hide hin11
      clear hrow11 hg11 hca hcm hin11
      generalize Lib.compact so = ks at *
      have hkl : ks.length ≤ 8192 := by omega
      obtain ⟨m, hm⟩ : ∃ m, ks.length = m := ⟨_, rfl⟩
      have HML := hide hm
      rw [hm] at HI11 hkl ⊢
      have HGM1 : Hid (GMap Tryz.prog 3 _ w11 mb1 (fun x => dayRow at_ z x.row) old) := hide (HM1.out.below HB11.out)
      have HGM2 : Hid (GMap Tryz.prog 3 _ w11 mb2 (fun x => dayRow at_ z x.row) new) := hide (HM2.out.below HB11.out)
      have HBX : Hid (Below w.heap.size w w11) := hide (below_trans SG9.out HB11.out)
      clear hm
      clear HM1
      clear HM2
      go_upto_region 9 with (fail)
      go_wp2
      go_loopw [17, 60] (fun o i wr => ∃ (k : Nat) (cs : List Int), k ≤ m ∧ i = .int .i64 k ∧ OL 3 w11.heap.size (fun _ => False) [] wr o cs ∧ Chg at_ z old new ks k cs ∧ Below w11.heap.size w11 wr) (fun _ i _ => m - (RowKit.intOf i).toNat)
      case atStart => exact ⟨0, [], Nat.zero_le _, rfl, OL.nil (Nat.le_refl _), Chg.start _ _ _ _ _, Below.refl _ _⟩
      case round =>
        obtain ⟨k, cs, hk, rfl, hol, hch, hb⟩ := hrel
        have HCH := hide hch
        have hcl2 := hch.len
        clear hch
        have HI11 := hide (HI11.out.below hb)
        have HGM1 := hide (HGM1.out.below hb)
        have HGM2 := hide (HGM2.out.below hb)
        have LST10 := hide hb
        have SG10 := hide hb
        clear hb
        have HO := hide hol
        clear hol
        by_cases hlt : k < m
        · obtain ⟨b, off, x, rfl, hBb, HX, e0, e1⟩ := HI11.out.int hlt
          have k0 : (0 : Int) ≤ (k : Int) := by omega
          have k1 : (k : Int) < (m : Int) := by omega
          have HXI := hide (HKI.out x (mem_of_drop HX.out))
          obtain ⟨v1, hlook1, hf1⟩ := HGM1.out.get Tryz.underlying73 Tryz.underlying3 (Tryz.zeroValue26 wr) (d := x) HXI.out
          obtain ⟨v2, hlook2, hf2⟩ := HGM2.out.get Tryz.underlying73 Tryz.underlying3 (Tryz.zeroValue26 wr) (d := x) HXI.out
          obtain ⟨A12, c12, rfl, hs12⟩ := hf1.sl
          obtain ⟨A13, c13, rfl, hs13⟩ := hf2.sl
          have HS12 := hide hs12
          have HS13 := hide hs13
          have HD1 : Hid (ofDay at_ z old x = old.filter fun y => dayRow at_ z y.row == x) := hide rfl
          have HD2 : Hid (ofDay at_ z new x = new.filter fun y => dayRow at_ z y.row == x) := hide rfl
          generalize (old.filter fun y => dayRow at_ z y.row == x) = z1 at *
          generalize (new.filter fun y => dayRow at_ z y.row == x) = z2 at *
          clear hf1 hf2 hs12 hs13
          go_wp2_with fail
          refine (sameP_any _ _ _ _ _ _ _ z1 z2 HS12.out HS13.out).mono ?_
          rintro e w11 ⟨⟨r, rfl, hrr⟩, hb11⟩
          have HI11 := hide (HI11.out.below hb11)
          have HGM1 := hide (HGM1.out.below hb11)
          have HGM2 := hide (HGM2.out.below hb11)
          have HO := hide (HO.out.below hb11)
          have LST12 := hide hb11
          have SG12 := hide (below_trans SG10.out hb11)
          clear hb11
          have HRR2 := hide hrr
          clear hrr
          cases r
          · have HT := hide (HCH.out.take HKA.out HX.out (by rw [HD1.out, HD2.out]; exact fun e => by have := HRR2.out.2 e; cases this))
            have hx64 := HXI.out
            go_wp2_with (at_builtin; refine wpList_push_OL _ rfl _ _ _ rfl elem_ints (by simp) _ _ rfl HO.out rfl rfl x ⟨rfl, hx64⟩ (by simp only [maxLen]; omega) (by omega) ?_; intro v1 w9 ho9 hb9 hg9 hat9)
            all_goals (try (exfalso; go_light; simp_all; done))
            have HO9 := hide ho9
            have HB9 := hide (SG12.out.trans hb9)
            clear ho9 hb9 hg9 hat9
            go_wp2
            all_goals (try (exfalso; go_light; simp_all; done))
            go_roundw
            case rel => exact ⟨k + 1, _, by omega, by go_num, HO9.out, HT.out, HB9.out⟩
            case measure => simp [RowKit.intOf]; omega
          · have HT := hide (HCH.out.skip HX.out (by rw [HD1.out, HD2.out]; exact HRR2.out.1 rfl))
            go_wp2
            all_goals (try (exfalso; go_light; simp_all; done))
            go_roundw
            case rel => exact ⟨k + 1, _, by omega, by go_num, HO.out, HT.out, SG12.out⟩
            case measure => simp [RowKit.intOf]; omega
        · have HFI : Hid (IsChanged at_ z old new cs) := hide (by
            have h1 := HCH.out
            rw [show k = ks.length by rw [HML.out]; omega] at h1
            exact h1.fin HKM.out)
          obtain ⟨A6, c6, hv, hin⟩ := HO.out.inn
          subst hv
          have HIN := hide hin
          clear hin
          go_wp2
          go_ret2
          exact ⟨⟨A6, _, c6, rfl, cs, HIN.out, HFI.out⟩, (below_trans HBX.out SG10.out)⟩
    · have hR0 : R = E2 := by rw [← HRR.out]; simp
      subst hR0
      have q : (R != 0) = true := by simpa using h2
      have H2 := hide h2
      clear h2
      go_wp2
      all_goals (try (exfalso; go_light; simp_all; done))
      go_ret2
      exact ⟨⟨none, 0, 0, [], rfl, In.nil_, fun _ => rfl, fun h => absurd h H2.out⟩, SG5.out⟩
  · have hR0 : R = E := by rw [← HRR.out, if_pos h0]
    subst hR0
    have q : (R != 0) = true := by simpa using h0
    have q2 : (R == 0) = false := by simpa using h0
    have H0 := hide h0
    clear h0
    go_wp2
    all_goals (try (exfalso; go_light; simp_all; done))
    go_ret2
    exact ⟨⟨none, 0, 0, [], rfl, In.nil_, fun _ => rfl, fun h => absurd h H0.out⟩, SG3.out⟩
end Go.Proofs.YtlbhnfnecfllkaaGreat
