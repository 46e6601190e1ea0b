/-
  warehouseref22.Changed. (Printed by gen_chgr.py.)
-/
import Derived.Test.YtlbhnfnecfllkaaGreatChgP
import Derived.Test.YtlbhnfnecfllkaaGreatGag
namespace Go.Proofs.YtlbhnfnecfllkaaGreat
open Go.RowKit
set_option linter.unusedSimpArgs false
set_option linter.unusedVariables false

/-- Where the merging of two ascending lists of days stands: cs are the changed ones so far. -/
structure ChM (F : Int → Prop) (us vs : List Int) (i k : Nat) (cs : List Int) : Prop where
  asc : Asc cs
  mem : ∀ d, d ∈ cs ↔ (d ∈ us.take i ∨ d ∈ vs.take k) ∧ F d
  low : ∀ x, (x ∈ us.take i ∨ x ∈ vs.take k) → ∀ y, (y ∈ us.drop i ∨ y ∈ vs.drop k) → x < y
  len : cs.length ≤ i + k
theorem ChM.start (F : Int → Prop) (us vs : List Int) : ChM F us vs 0 0 [] := ⟨List.Pairwise.nil, by simp, by simp, by simp⟩
theorem asc_later {us l : List Int} {i : Nat} {x : Int} (h : Asc us) (hd : us.drop i = x :: l) : ∀ y ∈ l, x < y := by
  have h1 : Asc (us.drop i) := h.drop
  rw [hd] at h1
  exact (List.pairwise_cons.1 h1).1
theorem drop_next {us l : List Int} {i : Nat} {x : Int} (h : us.drop i = x :: l) : us.drop (i + 1) = l := by
  rw [← List.drop_drop, h]; rfl
theorem ChM.left {F : Int → Prop} {us vs cs l : List Int} {i k : Nat} {x : Int} (h : ChM F us vs i k cs) (ha : Asc us) (hd : us.drop i = x :: l) (hb : ∀ y ∈ vs.drop k, x < y) (hF : F x) : ChM F us vs (i + 1) k (cs ++ [x]) := by
  have hin : x ∈ us.drop i := by rw [hd]; simp
  refine ⟨List.pairwise_append.2 ⟨h.asc, List.pairwise_singleton _ _, fun a h1 b h2 => ?_⟩, fun d => ?_, fun u hu y hy => ?_, by have := h.len; simp; omega⟩
  · simp at h2; subst h2
    exact h.low a ((h.mem a).1 h1).1 b (.inl hin)
  · rw [take_snoc hd]
    simp only [List.mem_append, List.mem_singleton, h.mem]
    constructor
    · rintro (⟨a | a, b⟩ | rfl)
      · exact ⟨.inl (.inl a), b⟩
      · exact ⟨.inr a, b⟩
      · exact ⟨.inl (.inr rfl), hF⟩
    · rintro ⟨(a | a) | a, b⟩
      · exact .inl ⟨.inl a, b⟩
      · exact .inr a
      · exact .inl ⟨.inr a, b⟩
  · rw [drop_next hd] at hy
    rw [take_snoc hd, List.mem_append, List.mem_singleton] at hu
    rcases hu with (hu | rfl) | hu
    · exact h.low u (.inl hu) y (hy.imp (fun q => by rw [hd]; simp [q]) id)
    · rcases hy with hy | hy
      · exact asc_later ha hd y hy
      · exact hb y hy
    · exact h.low u (.inr hu) y (hy.imp (fun q => by rw [hd]; simp [q]) id)
theorem ChM.swap {F : Int → Prop} {us vs cs : List Int} {i k : Nat} (h : ChM F us vs i k cs) : ChM F vs us k i cs :=
  ⟨h.asc, fun d => by rw [h.mem]; exact ⟨fun q => ⟨q.1.symm, q.2⟩, fun q => ⟨q.1.symm, q.2⟩⟩, fun x hx y hy => h.low x hx.symm y hy.symm, by have := h.len; omega⟩
theorem ChM.right {F : Int → Prop} {us vs cs l : List Int} {i k : Nat} {x : Int} (h : ChM F us vs i k cs) (hb : Asc vs) (hd : vs.drop k = x :: l) (ha : ∀ y ∈ us.drop i, x < y) (hF : F x) : ChM F us vs i (k + 1) (cs ++ [x]) :=
  (h.swap.left hb hd ha hF).swap
theorem ChM.both {F : Int → Prop} {us vs cs l m : List Int} {i k : Nat} {x : Int} (h : ChM F us vs i k cs) (ha : Asc us) (hb : Asc vs) (hd : us.drop i = x :: l) (he : vs.drop k = x :: m) (c : Bool) (hF : c = true ↔ F x) : ChM F us vs (i + 1) (k + 1) (if c then cs ++ [x] else cs) := by
  have hin : x ∈ us.drop i := by rw [hd]; simp
  refine ⟨?_, fun d => ?_, fun u hu y hy => ?_, by have := h.len; split <;> simp <;> omega⟩
  · split
    · exact List.pairwise_append.2 ⟨h.asc, List.pairwise_singleton _ _, fun a h1 b h2 => by
        simp at h2; subst h2
        exact h.low a ((h.mem a).1 h1).1 b (.inl hin)⟩
    · exact h.asc
  · rw [take_snoc hd, take_snoc he]
    have e : d ∈ (if c then cs ++ [x] else cs) ↔ d ∈ cs ∨ (c = true ∧ d = x) := by cases c <;> simp
    rw [e, h.mem]
    simp only [List.mem_append, List.mem_singleton]
    constructor
    · rintro (⟨a | a, b⟩ | ⟨a, rfl⟩)
      · exact ⟨.inl (.inl a), b⟩
      · exact ⟨.inr (.inl a), b⟩
      · exact ⟨.inl (.inr rfl), hF.1 a⟩
    · rintro ⟨(a | rfl) | (a | rfl), b⟩
      · exact .inl ⟨.inl a, b⟩
      · exact .inr ⟨hF.2 b, rfl⟩
      · exact .inl ⟨.inr a, b⟩
      · exact .inr ⟨hF.2 b, rfl⟩
  · rw [drop_next hd, drop_next he] at hy
    rw [take_snoc hd, take_snoc he] at hu
    simp only [List.mem_append, List.mem_singleton] at hu
    have hy' : y ∈ us.drop i ∨ y ∈ vs.drop k := hy.imp (fun q => by rw [hd]; simp [q]) (fun q => by rw [he]; simp [q])
    have hx : x < y := by
      rcases hy with hy | hy
      · exact asc_later ha hd y hy
      · exact asc_later hb he y hy
    rcases hu with (hu | rfl) | (hu | rfl)
    · exact h.low u (.inl hu) y hy'
    · exact hx
    · exact h.low u (.inr hu) y hy'
    · exact hx
theorem ChM.fin {at_ : Int} {z : Zone} {old new : List Ent} {us vs cs : List Int} {i k : Nat} (h : ChM (fun d => ofDay at_ z old d ≠ ofDay at_ z new d) us vs i k cs) (hi : us.length ≤ i) (hk : vs.length ≤ k) (h1 : ∀ d, d ∈ us ↔ d ∈ daysR at_ z old) (h2 : ∀ d, d ∈ vs ↔ d ∈ daysR at_ z new) : IsChanged at_ z old new cs :=
  ⟨h.asc, fun d => by
    rw [h.mem, List.take_of_length_le hi, List.take_of_length_le hk, h1, h2]
    exact ⟨fun q => q.2, fun q => ⟨day_of_ne q, q⟩⟩⟩
theorem ofDay_none {at_ : Int} {z : Zone} {l : List Ent} {d : Int} (h : d ∉ daysR at_ z l) : ofDay at_ z l d = [] := List.filter_eq_nil_iff.2 fun x hx q => h (List.mem_map.2 ⟨x, hx, by simpa using q⟩)
theorem ofDay_some {at_ : Int} {z : Zone} {l : List Ent} {d : Int} (h : d ∈ daysR at_ z l) : ofDay at_ z l d ≠ [] := fun e => by
  obtain ⟨x, hx, rfl⟩ := List.mem_map.1 h
  have : x ∈ ofDay at_ z l (dayRow at_ z x.row) := List.mem_filter.2 ⟨hx, by simp⟩
  rw [e] at this; cases this
/-- The day of the least rest is only in one of the two. -/
theorem ChM.only {F : Int → Prop} {us vs cs l : List Int} {i k : Nat} {x : Int} (h : ChM F us vs i k cs) (hd : us.drop i = x :: l) (hb : ∀ y ∈ vs.drop k, x < y) : x ∈ us ∧ x ∉ vs := by
  have hin : x ∈ us.drop i := by rw [hd]; simp
  refine ⟨List.mem_of_mem_drop hin, fun q => ?_⟩
  rw [← List.take_append_drop k vs, List.mem_append] at q
  rcases q with q | q
  · have := h.low x (.inr q) x (.inl hin); omega
  · have := hb x q; omega
theorem split_rows {at_ : Int} {z : Zone} {rows : List Ent} {ps : List Partn} (h : IsSplit at_ z rows ps) : ∀ p ∈ ps, p.rows = ofDay at_ z rows p.day := by
  obtain ⟨ks, _, _, rfl⟩ := h
  intro p hp
  obtain ⟨d, _, rfl⟩ := List.mem_map.1 hp
  rfl
theorem split_len {at_ : Int} {z : Zone} {rows : List Ent} {ps : List Partn} (h : IsSplit at_ z rows ps) : ps.length ≤ rows.length := by
  obtain ⟨hasc, hdays⟩ := split_days h
  have h2 : ps.length = (ps.map Partn.day).length := by simp
  have h3 : (ps.map Partn.day).length ≤ (daysR at_ z rows).length := List.Nodup.length_le_of_subset (List.nodup_iff_pairwise_ne.2 (hasc.imp fun h => by omega)) fun d hd => (hdays d).1 hd
  have h5 : (daysR at_ z rows).length = rows.length := by rw [daysR, List.length_map]
  omega
class DrewsB (w W : World) : Prop where
  below : Below w.heap.size w W
instance (w : World) : DrewsB w w := ⟨Below.refl _ _⟩
instance (w W : World) [h : DrewsB w W] : DrewsB w W.drew := ⟨h.below.drew⟩
instance (w W : World) (n : Nat) [h : DrewsB w W] : DrewsB w (W.drewN n) := ⟨below_any h.below⟩
theorem drewsB (w : World) {W : World} [h : DrewsB w W] : Below w.heap.size w W := h.below
theorem map_drop {ps l : List Partn} {k : Nat} {p : Partn} (h : ps.drop k = p :: l) : (ps.map Partn.day).drop k = p.day :: l.map Partn.day := by rw [← List.map_drop, h, List.map_cons]
set_option maxHeartbeats 8000000 in
set_option maxRecDepth 100000 in
theorem chgR_ref (w : World) (A1 : Option Addr) (n1 c1 : Nat) (cols : List Col) (hc : In w A1 n1 c1 cols) (col : ByteArray) (A : Option Addr) (n c : Nat) (z : Zone) (hx : In w A n c z.shifts) (ho : I64 z.offset) (A2 : Option Addr) (n2 c2 : Nat) (old : List Ent) (hr : In w A2 n2 c2 old) (A3 : Option Addr) (n3 c3 : Nat) (new : List Ent) (hp : In w A3 n3 c3 new) :
    Calls Tryz.prog 25 #[.slice A1 n1 c1, .string col, .agg #[.string z.name, .int .i64 z.offset, .slice A n c], .slice A2 n2 c2, .slice A3 n3 c3] w
      fun e w' => (∃ B m d ds, e = .returned (.tuple #[.slice B m d, .int .i64 (chgErr cols col z old new)]) ∧ In w' B m d ds ∧ (chgErr cols col z old new ≠ 0 → ds = []) ∧ (chgErr cols col z old new = 0 → IsChanged (findS cols col z).1 z old new ds)) ∧ Below w.heap.size w w' := by
  have HF1 := hide (scheme_fit (cols := cols) (col := col) (z := z) (rows := old))
  have HF2 := hide (scheme_fit (cols := cols) (col := col) (z := z) (rows := new))
  obtain ⟨R, hR⟩ : ∃ R, chgErr cols col z old new = R := ⟨_, rfl⟩
  have HR0 := hR
  rw [hR]
  obtain ⟨E, hE⟩ : ∃ E, schemeErr cols col z old = E := ⟨_, rfl⟩
  have HE := hide hE
  obtain ⟨E2, hE2⟩ : ∃ E, schemeErr cols col z new = E := ⟨_, rfl⟩
  have HE2 := hide hE2
  rw [chgErr, hE, hE2] at HR0
  have HRR := hide HR0
  clear hE hR hE2 HR0
  obtain ⟨at_, hat⟩ : ∃ at_, (findS cols col z).1 = at_ := ⟨_, rfl⟩
  have HAT := hide hat
  rw [hat]
  clear hat
  have hn2 := hr.len
  have hn3 := hp.len
  go_enter Tryz.func25, Tryz.ntmps25
  go_upto_region 1 with (fail)
  have HC := hide hc
  clear hc
  have HZ := hide hx
  clear hx
  have HO := hide hr
  clear hr
  have HN := hide hp
  clear hp
  obtain ⟨W1, hW1⟩ : ∃ W, W = w.alloc (.cells #[.string z.name, .int .i64 z.offset, .slice A n c] 25) := ⟨_, rfl⟩
  have g0 : W1.cell? ⟨w.heap.size, 0, none⟩ = some (.string z.name) := by rw [hW1]; simp [go_sem]
  have g1 : W1.cell? ⟨w.heap.size, 1, none⟩ = some (.int .i64 z.offset) := by rw [hW1]; simp [go_sem]
  have g2 : W1.cell? ⟨w.heap.size, 2, none⟩ = some (.slice A n c) := by rw [hW1]; simp [go_sem]
  have hbW1 : Below w.heap.size w W1 := by rw [hW1]; exact below_alloc
  have SZW1 : Hid (W1.heap.size = w.heap.size + 1) := hide (by rw [hW1]; exact World.size_alloc _ _)
  rw [← hW1]
  clear hW1
  have HC := hide (HC.out.below hbW1)
  have HZ := hide (HZ.out.below hbW1)
  have HO := hide (HO.out.below hbW1)
  have HN := hide (HN.out.below hbW1)
  have LST1 := hide hbW1
  have SG1 := hide hbW1
  clear hbW1
  have LZ := lt_of_cell g0
  go_wp2_with fail
  refine (splitR_ref _ _ _ _ cols HC.out col A n c z HZ.out ho _ _ _ old HO.out).mono ?_
  rintro e w2 ⟨⟨B1, m1, d1, us, rfl, hia, hza, hsa⟩, hb2⟩
  have HC := hide (HC.out.below hb2)
  have HZ := hide (HZ.out.below hb2)
  have HO := hide (HO.out.below hb2)
  have HN := hide (HN.out.below hb2)
  have g0 := bat hb2 LZ g0
  have g1 := bat hb2 LZ g1
  have g2 := bat hb2 LZ g2
  have LZ := lt_of_cell g0
  have LST3 := hide hb2
  have SG3 := hide (below_trans SG1.out hb2)
  clear hb2
  rw [HE.out] at hza hsa ⊢
  rw [HAT.out] at hsa
  have HSA := hide hsa
  clear hza hsa
  have IA := hide hia
  clear hia
  by_cases h0 : E = 0
  · subst h0
    go_wp2_with fail
    refine (splitR_ref _ _ _ _ cols HC.out col A n c z HZ.out ho _ _ _ new HN.out).mono ?_
    rintro e w4 ⟨⟨B2, m2, d2, vs, rfl, hib, hzb, hsb⟩, hb4⟩
    have HC := hide (HC.out.below hb4)
    have HZ := hide (HZ.out.below hb4)
    have HO := hide (HO.out.below hb4)
    have HN := hide (HN.out.below hb4)
    have IA := hide (IA.out.below hb4)
    have g0 := bat hb4 LZ g0
    have g1 := bat hb4 LZ g1
    have g2 := bat hb4 LZ g2
    have LZ := lt_of_cell g0
    have LST5 := hide hb4
    have SG5 := hide (below_trans SG3.out hb4)
    clear hb4
    rw [HE2.out] at hzb hsb ⊢
    rw [HAT.out] at hsb
    have HSB := hide hsb
    clear hzb hsb
    have IB := hide hib
    clear hib
    by_cases h2 : E2 = 0
    · subst h2
      have hR0 : R = 0 := by rw [← HRR.out]; simp
      subst hR0
      have SA := hide (HSA.out (by trivial))
      have SB := hide (HSB.out (by trivial))
      have DA := hide (split_days SA.out)
      have DB := hide (split_days SB.out)
      have hm1 : m1 ≤ 4096 := by have h1 := split_len SA.out; have h2 := IA.out.len; have h3 := (HF1.out HE.out).2.2; omega
      have hm2 : m2 ≤ 4096 := by have h1 := split_len SB.out; have h2 := IB.out.len; have h3 := (HF2.out HE2.out).2.2; omega
      clear HC
      clear HZ
      clear HO
      clear HN
      clear LZ g0 g1 g2
      clear HSA HSB HF1 HF2
      have HLA := hide IA.out.len
      have HLB := hide IB.out.len
      go_upto_region 7 with (fail)
      go_wp2
      go_loopw [15, 16, 17] (fun o i k wr => ∃ (p q : Nat) (cs : List Int), p ≤ m1 ∧ q ≤ m2 ∧ i = .int .i64 p ∧ k = .int .i64 q ∧ OL 3 w4.heap.size (fun _ => False) [] wr o cs ∧ ChM (fun d => ofDay at_ z old d ≠ ofDay at_ z new d) (us.map Partn.day) (vs.map Partn.day) p q cs ∧ Below w4.heap.size w4 wr) (fun _ i k _ => m1 - (RowKit.intOf i).toNat + (m2 - (RowKit.intOf k).toNat))
      case atStart => exact ⟨0, 0, [], Nat.zero_le _, Nat.zero_le _, rfl, rfl, OL.nil (Nat.le_refl _), ChM.start _ _ _, Below.refl _ _⟩
      case round =>
        obtain ⟨p, q, cs, hp1, hq1, rfl, rfl, hol, hch, hb⟩ := hrel
        have HCH := hide hch
        have hcl := hch.len
        clear hch
        have IA := hide (IA.out.below hb)
        have IB := hide (IB.out.below hb)
        have LST6 := hide hb
        have SG6 := hide hb
        clear hb
        have OO := hide hol
        clear hol
        by_cases hlp : p < m1
        · obtain ⟨b, off, x, rfl, hBb, HX, Ax, An, Ac, e0, e1, e2, e3⟩ := IA.out.part hlp
          have i0 : (0 : Int) ≤ (p : Int) := by omega
          have i1 : (p : Int) < (m1 : Int) := by omega
          have i2 : ((p : Int) == (m1 : Int)) = false := by simp; omega
          have HXD := hide (map_drop HX.out)
          have HXR := hide (split_rows SA.out x (mem_of_drop HX.out))
          have HXI := hide e2
          clear e2
          by_cases hlq : q < m2
          · obtain ⟨b', off', y, rfl, hBb', HY, Ay, Bn, Bc, f0, f1, f2, f3⟩ := IB.out.part hlq
            have j0 : (0 : Int) ≤ (q : Int) := by omega
            have j1 : (q : Int) < (m2 : Int) := by omega
            have j2 : ((q : Int) == (m2 : Int)) = false := by simp; omega
            have HYD := hide (map_drop HY.out)
            have HYR := hide (split_rows SB.out y (mem_of_drop HY.out))
            have HYI := hide f2
            clear f2
            obtain ⟨dx, rx⟩ := x
            obtain ⟨dy, ry⟩ := y
            simp only at e0 e1 f0 f1 e3 f3 HXD HYD HXR HYR HXI HYI
            obtain hc | hc | hc : dx < dy ∨ dy < dx ∨ dx = dy := by omega
            · have q1 : decide (dx < dy) = true := by simpa using hc
              have HLO : Hid (∀ u ∈ (vs.map Partn.day).drop q, dx < u) := hide (by
                rw [HYD.out]
                intro u hu
                rcases List.mem_cons.1 hu with rfl | hu
                · exact hc
                · have := asc_later DB.out.1 HYD.out u hu; omega)
              clear hc
              have HON := hide (HCH.out.only HXD.out HLO.out)
              have HNX := hide (HCH.out.left DA.out.1 HXD.out HLO.out (by
                have h1 := ofDay_some ((DA.out.2 dx).1 HON.out.1)
                have h2 := ofDay_none (fun h => HON.out.2 ((DB.out.2 dx).2 h))
                rw [h2]; exact h1))
              go_wp2
              go_quiet (fail)
              go_wp2_with (at_builtin; refine wpList_push_OL _ rfl _ _ _ rfl elem_ints (by simp) _ _ rfl (OO.out.below (drewsB _)) rfl rfl dx ⟨rfl, e3⟩ (by simp only [maxLen]; omega) (by omega) ?_; intro v1 w9 ho9 hb9 hg9 hat9)
              all_goals (try (exfalso; go_light; simp_all; done))
              have HO9 := hide ho9
              have HB9 := hide (SG6.out.trans (((drewsB _).mono SG6.out.size).trans hb9))
              clear ho9 hb9 hg9 hat9
              go_wp2
              all_goals (try (exfalso; go_light; simp_all; done))
              go_roundw
              case rel => exact ⟨p + 1, q, _, by omega, by omega, by go_num, rfl, HO9.out, HNX.out, HB9.out⟩
              case measure => simp [RowKit.intOf]; omega
            · have q1 : decide (dx < dy) = false := by simp; omega
              have q2 : decide (dy < dx) = true := by simpa using hc
              have HLO : Hid (∀ u ∈ (us.map Partn.day).drop p, dy < u) := hide (by
                rw [HXD.out]
                intro u hu
                rcases List.mem_cons.1 hu with rfl | hu
                · exact hc
                · have := asc_later DA.out.1 HXD.out u hu; omega)
              clear hc
              go_wp2
              go_quiet (fail)
              have HON := hide (HCH.out.swap.only HYD.out HLO.out)
              have HNX := hide (HCH.out.right DB.out.1 HYD.out HLO.out (by
                have h1 := ofDay_some ((DB.out.2 dy).1 HON.out.1)
                have h2 := ofDay_none (fun h => HON.out.2 ((DA.out.2 dy).2 h))
                rw [h2]; exact fun e => h1 e.symm))
              go_wp2
              go_quiet (fail)
              go_wp2_with (at_builtin; refine wpList_push_OL _ rfl _ _ _ rfl elem_ints (by simp) _ _ rfl (OO.out.below (drewsB _)) rfl rfl dy ⟨rfl, f3⟩ (by simp only [maxLen]; omega) (by omega) ?_; intro v1 w9 ho9 hb9 hg9 hat9)
              all_goals (try (exfalso; go_light; simp_all; done))
              have HO9 := hide ho9
              have HB9 := hide (SG6.out.trans (((drewsB _).mono SG6.out.size).trans hb9))
              clear ho9 hb9 hg9 hat9
              go_wp2
              all_goals (try (exfalso; go_light; simp_all; done))
              go_roundw
              case rel => exact ⟨p, q + 1, _, by omega, by omega, rfl, by go_num, HO9.out, HNX.out, HB9.out⟩
              case measure => simp [RowKit.intOf]; omega
            · subst hc
              have q1 : decide (dx < dx) = false := by simp
              go_wp2
              go_quiet (fail)
              go_wp2
              go_quiet (fail)
              have E0 := hide e0
              have E1 := hide e1
              have F1 := hide f1
              have HBb := hide hBb
              have HBc := hide hBb'
              go_wp2_with fail
              go_region_held3 (fun V => V.cell? ⟨b, off + p * 2 + 1, none⟩ = some (.slice Ax An Ac) ∧ V.cell? ⟨b', off' + q * 2 + 1, none⟩ = some (.slice Ay Bn Bc))
                (first | exact ⟨bat HB2.out HBb.out E1.out, bat HB2.out HBc.out F1.out⟩ | exact ⟨e1, f1⟩)
                (first | (go_at_call 18; refine (sameEnts_any _ Ax Ay An Bn Ac Bc rx ry (by exact HXI.out.below (drewsB _)) (by exact HYI.out.below (drewsB _))).mono ?_; rintro e w2 ⟨⟨r, rfl, hr⟩, hb2⟩; have HR := hide hr; have HB2 : Hid (Below wr.heap.size wr w2) := hide (below_trans (drewsB wr) hb2); clear hb2 hr))
              have hb2 := HB2.out
              have e0 := bat hb2 HBb.out E0.out
              have hBb2 := lt_of_cell e0
              have IA := hide (IA.out.below hb2)
              have IB := hide (IB.out.below hb2)
              have OO := hide (OO.out.below hb2)
              have LST7 := hide hb2
              have SG7 := hide (below_trans SG6.out hb2)
              clear hb2
              have HBO := hide (HCH.out.both DA.out.1 DB.out.1 HXD.out HYD.out (!r) (by
                have h1 := HR.out
                rw [← HXR.out, ← HYR.out]
                cases r
                · simp only [Bool.not_false, true_iff]; exact fun e => by have := h1.2 e; cases this
                · simp only [Bool.not_true, Bool.false_eq_true, false_iff]; exact fun e => e (h1.1 rfl)))
              cases r
              · go_wp2_with (at_builtin; refine wpList_push_OL _ rfl _ _ _ rfl elem_ints (by simp) _ _ rfl OO.out rfl rfl dx ⟨rfl, e3⟩ (by simp only [maxLen]; omega) (by omega) ?_; intro v1 w9 ho9 hb9 hg9 hat9)
                all_goals (try (exfalso; go_light; simp_all; done))
                have HO9 := hide ho9
                have HB9 := hide (SG7.out.trans hb9)
                clear ho9 hb9 hg9 hat9
                go_wp2
                all_goals (try (exfalso; go_light; simp_all; done))
                go_roundw
                case rel => exact ⟨p + 1, q + 1, cs ++ [dx], by omega, by omega, by go_num, by go_num, HO9.out, HBO.out, HB9.out⟩
                case measure => simp [RowKit.intOf]; omega
              · go_wp2
                all_goals (try (exfalso; go_light; simp_all; done))
                go_roundw
                case rel => exact ⟨p + 1, q + 1, cs, by omega, by omega, by go_num, by go_num, OO.out, HBO.out, SG7.out⟩
                case measure => simp [RowKit.intOf]; omega
          · have hq2 : q = m2 := by omega
            subst hq2
            have j2 : ((q : Int) == (q : Int)) = true := by simp
            obtain ⟨dx, rx⟩ := x
            simp only at e0 e1 e3 HXD HXR HXI
            have HLO : Hid (∀ u ∈ (vs.map Partn.day).drop q, dx < u) := hide (by
              rw [List.drop_eq_nil_of_le (by rw [List.length_map, HLB.out]; exact Nat.le_refl _)]
              intro u hu; cases hu)
            have HON := hide (HCH.out.only HXD.out HLO.out)
            have HNX := hide (HCH.out.left DA.out.1 HXD.out HLO.out (by
              have h1 := ofDay_some ((DA.out.2 dx).1 HON.out.1)
              have h2 := ofDay_none (fun h => HON.out.2 ((DB.out.2 dx).2 h))
              rw [h2]; exact h1))
            go_wp2
            go_quiet (fail)
            go_wp2_with (at_builtin; refine wpList_push_OL _ rfl _ _ _ rfl elem_ints (by simp) _ _ rfl (OO.out.below (drewsB _)) rfl rfl dx ⟨rfl, e3⟩ (by simp only [maxLen]; omega) (by omega) ?_; intro v1 w9 ho9 hb9 hg9 hat9)
            all_goals (try (exfalso; go_light; simp_all; done))
            have HO9 := hide ho9
            have HB9 := hide (SG6.out.trans (((drewsB _).mono SG6.out.size).trans hb9))
            clear ho9 hb9 hg9 hat9
            go_wp2
            all_goals (try (exfalso; go_light; simp_all; done))
            go_roundw
            case rel => exact ⟨p + 1, q, _, by omega, by omega, by go_num, rfl, HO9.out, HNX.out, HB9.out⟩
            case measure => simp [RowKit.intOf]; omega
        · have hp2 : p = m1 := by omega
          subst hp2
          have i2 : ((p : Int) == (p : Int)) = true := by simp
          by_cases hlq : q < m2
          · obtain ⟨b', off', y, rfl, hBb', HY, Ay, Bn, Bc, f0, f1, f2, f3⟩ := IB.out.part hlq
            have j0 : (0 : Int) ≤ (q : Int) := by omega
            have j1 : (q : Int) < (m2 : Int) := by omega
            have j2 : ((q : Int) == (m2 : Int)) = false := by simp; omega
            have HYD := hide (map_drop HY.out)
            have HYR := hide (split_rows SB.out y (mem_of_drop HY.out))
            clear f2
            obtain ⟨dy, ry⟩ := y
            simp only at f0 f1 f3 HYD HYR
            have HLO : Hid (∀ u ∈ (us.map Partn.day).drop p, dy < u) := hide (by
              rw [List.drop_eq_nil_of_le (by rw [List.length_map, HLA.out]; exact Nat.le_refl _)]
              intro u hu; cases hu)
            go_wp2
            go_quiet (fail)
            have HON := hide (HCH.out.swap.only HYD.out HLO.out)
            have HNX := hide (HCH.out.right DB.out.1 HYD.out HLO.out (by
              have h1 := ofDay_some ((DB.out.2 dy).1 HON.out.1)
              have h2 := ofDay_none (fun h => HON.out.2 ((DA.out.2 dy).2 h))
              rw [h2]; exact fun e => h1 e.symm))
            go_wp2
            go_quiet (fail)
            go_wp2_with (at_builtin; refine wpList_push_OL _ rfl _ _ _ rfl elem_ints (by simp) _ _ rfl (OO.out.below (drewsB _)) rfl rfl dy ⟨rfl, f3⟩ (by simp only [maxLen]; omega) (by omega) ?_; intro v1 w9 ho9 hb9 hg9 hat9)
            all_goals (try (exfalso; go_light; simp_all; done))
            have HO9 := hide ho9
            have HB9 := hide (SG6.out.trans (((drewsB _).mono SG6.out.size).trans hb9))
            clear ho9 hb9 hg9 hat9
            go_wp2
            all_goals (try (exfalso; go_light; simp_all; done))
            go_roundw
            case rel => exact ⟨p, q + 1, _, by omega, by omega, rfl, by go_num, HO9.out, HNX.out, HB9.out⟩
            case measure => simp [RowKit.intOf]; omega
          · have hq2 : q = m2 := by omega
            subst hq2
            have HFI : Hid (IsChanged at_ z old new cs) := hide (HCH.out.fin (by rw [List.length_map, HLA.out]; exact Nat.le_refl _) (by rw [List.length_map, HLB.out]; exact Nat.le_refl _) DA.out.2 DB.out.2)
            obtain ⟨A6, c6, hv, hin⟩ := OO.out.inn
            subst hv
            have HIN := hide hin
            clear hin
            go_wp2
            go_ret2
            exact ⟨⟨A6, _, c6, rfl, cs, HIN.out, HFI.out⟩, (below_trans SG5.out SG6.out)⟩
    · have hR0 : R = E2 := by rw [← HRR.out]; simp
      subst hR0
      have q : (R != 0) = true := by simpa using h2
      have H2 := hide h2
      clear h2
      go_wp2
      all_goals (try (exfalso; go_light; simp_all; done))
      go_ret2
      exact ⟨⟨none, 0, 0, [], rfl, In.nil_, fun _ => rfl, fun h => absurd h H2.out⟩, SG5.out⟩
  · have hR0 : R = E := by rw [← HRR.out, if_pos h0]
    subst hR0
    have q : (R != 0) = true := by simpa using h0
    have H0 := hide h0
    clear h0
    go_wp2
    all_goals (try (exfalso; go_light; simp_all; done))
    go_ret2
    exact ⟨⟨none, 0, 0, [], rfl, In.nil_, fun _ => rfl, fun h => absurd h H0.out⟩, SG3.out⟩
end Go.Proofs.YtlbhnfnecfllkaaGreat
