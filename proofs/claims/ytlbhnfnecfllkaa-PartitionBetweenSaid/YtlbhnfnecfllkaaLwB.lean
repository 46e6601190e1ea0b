/-
  warehouselaw22.PartitionBetween.
-/
import Derived.Test.YtlbhnfnecfllkaaKno
import Derived.Test.YtlbhnfnecfllkaaWor
namespace Go.Proofs.Ytlbhnfnecfllkaa
open Go.RowKit
set_option linter.unusedSimpArgs false
set_option linter.unusedVariables false

theorem dayFrom_le2 {t M : Int} (hM : (t + 840) / 1440 ≤ M) (h0 : 0 ≤ M) : ∀ (l : List Shift) (b o : Int), (∀ s ∈ l, s.offset ≤ 840) → o ≤ 840 → b ≤ M → dayFrom t l b o ≤ M
  | [], b, o, _, ho, hb => by
    rw [dayFrom]
    have : localDay t o ≤ M := by rw [localDay]; split <;> omega
    omega
  | s :: l, b, o, h, ho, hb => by
    have hs := h s (by simp)
    rw [dayFrom]
    split
    · have : localDay t o ≤ M := by rw [localDay]; split <;> omega
      omega
    · rename_i hle
      have : localDay (s.at_ - 1) o ≤ M := by rw [localDay]; split <;> omega
      exact dayFrom_le2 hM h0 l _ _ (fun q hq => h q (by simp [hq])) hs (by omega)
theorem dayAt_le2 {z : Zone} (hz : zoneErr z = 0) {t : Int} (h0 : 0 ≤ t) (h : t ≤ 200000) : dayAt z t ≤ 200 := by
  obtain ⟨q1, q2⟩ := zone_bd hz
  exact dayFrom_le2 (by omega) (by omega) z.shifts 0 z.offset (fun s hs => (q2 s hs).2.1) q1.2 (by omega)
theorem days_len (z : Zone) : ∀ (n : Nat) (a b : Int), 0 ≤ a → b ≤ 576000000 → b - a ≤ n → a < b → ((daysS z a b).length : Int) ≤ dayAt z (b - 1) - dayAt z a + 1
  | 0, a, b, h0, hb, hn, h => by omega
  | n + 1, a, b, h0, hb, hn, h => by
    have hs := startS_next z h0 (by omega)
    have hm := dayAt_mono z (show a ≤ b - 1 by omega)
    obtain ⟨s0, s1, s2, s3⟩ := startS_spec z (dayAt z a + 1)
    rw [daysS_step z h0 hb h, List.length_cons]
    by_cases hlt : startS z (dayAt z a + 1) < b
    · have ih := days_len z n _ b s0 hb (by omega) hlt
      have := s3 (by omega)
      omega
    · rw [daysS_nil z hlt]
      simp
      omega
theorem days_short {z : Zone} (hz : zoneErr z = 0) {a b : Int} (h0 : 0 ≤ a) (hb : b ≤ 200000) : (daysS z a b).length ≤ 1024 := by
  by_cases h : a < b
  · have h1 := days_len z (b - a).toNat a b h0 (by omega) (by omega) h
    have h2 := dayAt_le2 hz (t := b - 1) (by omega) (by omega)
    have h3 := dayAt_nonneg z a
    omega
  · rw [daysS_nil z h]; simp
theorem btw_near {z : Zone} (hz : zoneErr z = 0) {a b : Int} (h0 : 0 ≤ a) (hab : a ≤ b) (hb : b ≤ 200000) : btwE z a b = (daysS z a b, 0) := by
  have := days_short hz h0 hb
  rw [btwE, if_neg (by simp [hz]), if_neg (by omega), if_neg (by omega)]

theorem cells_int_one : ∀ {xs : List Int} {w : World} {S : Nat → Prop} {cs : List Value}, Cells w S cs xs → ∀ u ∈ cs, u.oneCell' = true
  | [], _, _, _, h, u, hu => by rw [show _ = [] from h] at hu; cases hu
  | x :: xs, _, _, _, ⟨c0, c1, rfl, h0, h1⟩, u, hu => by
    rcases List.mem_append.1 hu with h | h
    · have e : c0 = [.int .i64 x] := h0.1
      rw [e] at h
      simp at h
      rw [h]; rfl
    · exact cells_int_one h1 u h
theorem cells_int_any : ∀ {xs : List Int} {w w' : World} {S T : Nat → Prop} {cs : List Value}, Cells w S cs xs → Cells w' T cs xs
  | [], _, _, _, _, _, h => h
  | x :: xs, _, _, _, _, _, ⟨c0, c1, e, h0, h1⟩ => ⟨c0, c1, e, h0, cells_int_any h1⟩
/-- The zone and the three instants that the law keeps. -/
structure Tri (w W : World) (Z : Zone) (A : Option Addr) (m c g h : Nat) (l0 l1 l2 : Int) : Prop where
  z0 : W.cell? ⟨g, 0, none⟩ = some (.string Z.name)
  z1 : W.cell? ⟨g, 1, none⟩ = some (.int .i64 Z.offset)
  z2 : W.cell? ⟨g, 2, none⟩ = some (.slice A m c)
  c0 : W.cell? ⟨h, 0, none⟩ = some (.int .i64 l0)
  c1 : W.cell? ⟨h, 1, none⟩ = some (.int .i64 l1)
  c2 : W.cell? ⟨h, 2, none⟩ = some (.int .i64 l2)
  blk : RowBlk W h 33 3
  ne : g ≠ h
  low : w.heap.size ≤ h
  below : Below w.heap.size w W
theorem Tri.keep {w W W' : World} {Z : Zone} {A : Option Addr} {m c g h : Nat} {l0 l1 l2 : Int} (t : Tri w W Z A m c g h l0 l1 l2) (hb : Below W.heap.size W W') : Tri w W' Z A m c g h l0 l1 l2 :=
  ⟨bat hb (lt_of_cell t.z0) t.z0, bat hb (lt_of_cell t.z1) t.z1, bat hb (lt_of_cell t.z2) t.z2, bat hb (lt_of_cell t.c0) t.c0, bat hb (lt_of_cell t.c1) t.c1, bat hb (lt_of_cell t.c2) t.c2, t.blk.below hb, t.ne, t.low, below_trans t.below hb⟩
theorem Tri.drew {w W : World} {Z : Zone} {A : Option Addr} {m c g h : Nat} {l0 l1 l2 : Int} (t : Tri w W Z A m c g h l0 l1 l2) : Tri w W.drew Z A m c g h l0 l1 l2 := t.keep (Below.refl _ _).drew
theorem Tri.set1 {w W : World} {Z : Zone} {A : Option Addr} {m c g h : Nat} {l0 l1 l2 : Int} (t : Tri w W Z A m c g h l0 l1 l2) (l : Int) : Tri w (W.setCell ⟨h, 1, none⟩ (.int .i64 l)) Z A m c g h l0 l l2 :=
  ⟨set_far t.z0 (.inl t.ne), set_far t.z1 (.inl t.ne), set_far t.z2 (.inl t.ne), set_far t.c0 (.inr (by omega)), set_same t.c1, set_far t.c2 (.inr (by omega)), t.blk.set _ _ _, t.ne, t.low, t.below.setCell t.low _⟩
theorem Tri.set2 {w W : World} {Z : Zone} {A : Option Addr} {m c g h : Nat} {l0 l1 l2 : Int} (t : Tri w W Z A m c g h l0 l1 l2) (l : Int) : Tri w (W.setCell ⟨h, 2, none⟩ (.int .i64 l)) Z A m c g h l0 l1 l :=
  ⟨set_far t.z0 (.inl t.ne), set_far t.z1 (.inl t.ne), set_far t.z2 (.inl t.ne), set_far t.c0 (.inr (by omega)), set_far t.c1 (.inr (by omega)), set_same t.c2, t.blk.set _ _ _, t.ne, t.low, t.below.setCell t.low _⟩
theorem Tri.made (w : World) (Z : Zone) (A : Option Addr) (m c : Nat) (l0 l1 l2 : Int) :
    Tri w ((w.alloc (.cells #[.string Z.name, .int .i64 Z.offset, .slice A m c] 24)).alloc (.cells #[.int .i64 l0, .int .i64 l1, .int .i64 l2] 33)) Z A m c w.heap.size (w.heap.size + 1) l0 l1 l2 := by
  have h1 := cells_new (heap_alloc2 w (.cells #[.string Z.name, .int .i64 Z.offset, .slice A m c] 24) (.cells #[.int .i64 l0, .int .i64 l1, .int .i64 l2] 33))
  have h2 := heap_alloc_new (w.alloc (.cells #[.string Z.name, .int .i64 Z.offset, .slice A m c] 24)) (.cells #[.int .i64 l0, .int .i64 l1, .int .i64 l2] 33)
  have hr := RowBlk.made (w.alloc (.cells #[.string Z.name, .int .i64 Z.offset, .slice A m c] 24)) #[.int .i64 l0, .int .i64 l1, .int .i64 l2] 33 3 rfl
  rw [World.size_alloc] at h2 hr
  have h3 := cells_new h2
  exact ⟨h1 0 _ rfl, h1 1 _ rfl, h1 2 _ rfl, h3 0 _ rfl, h3 1 _ rfl, h3 2 _ rfl, hr, by omega, by omega, below_alloc2⟩

set_option maxHeartbeats 8000000 in
set_option maxRecDepth 100000 in
theorem lawB_any (w : World) (A : Option Addr) (n c : Nat) (z : Zone) (hx : In w A n c z.shifts) (ho : I64 z.offset) (from_ to_ zi a b cc : Int) :
    Calls Try.prog 3 #[.agg #[.string z.name, .int .i64 z.offset, .slice A n c], .int .i64 from_, .int .i64 to_, .int .i64 zi, .int .i64 a, .int .i64 b, .int .i64 cc] w
      fun e w' => e = .returned (.bool true) ∧ Below w.heap.size w w' := by
  obtain ⟨i0, hi, hz0, hz1, hz2⟩ := info_parts int_infoB
  have h63 := hx.le
  by_cases hn : 70 < n
  · have n0 : (70 : Int) < (n : Int) := by omega
    go_enter Try.func3, Try.ntmps3
    go_wp2_with fail
    refine (known_any _).mono ?_
    rintro e w1 ⟨rfl, hb1⟩
    have hbb := below_trans below_alloc hb1
    go_wp2
    go_ret
    exact ⟨rfl, hbb⟩
  have n0 : ¬ (70 : Int) < (n : Int) := by omega
  go_enter Try.func3, Try.ntmps3
  go_wp2_with fail
  refine (btw_any _ A n c z (hx.below below_alloc) ho from_ to_).mono ?_
  rintro e w1 ⟨⟨B1, d1, rfl, s1⟩, hb1⟩
  have hbb := below_trans below_alloc hb1
  have g0 := bat (b := w.heap.size) (o := 0) (v := .string z.name) hb1 (by simp) (by simp [go_sem])
  have g1 := bat (b := w.heap.size) (o := 1) (v := .int .i64 z.offset) hb1 (by simp) (by simp [go_sem])
  have g2 := bat (b := w.heap.size) (o := 2) (v := .slice A n c) hb1 (by simp) (by simp [go_sem])
  have HS1 := hide s1
  clear hb1 s1
  obtain ⟨E, hE⟩ : ∃ E, btwE z from_ to_ = E := ⟨_, rfl⟩
  have HE := hide hE
  rw [hE] at HS1 ⊢
  clear hE
  go_wp2_with fail
  refine (btw_ref _ A n c z (hx.below hbb) ho from_ to_).mono ?_
  rintro e w2 ⟨⟨B2, d2, rfl, s2⟩, hb2⟩
  have hbb2 := below_trans hbb hb2
  rw [HE.out] at s2 ⊢
  have i1 := HS1.out.inn.below hb2
  have i2 := s2.inn
  clear hb2 s2 HS1 g0 g1 g2 hbb HE
  go_wp2_with (go_at_call 8; refine (sameInts_any _ B1 B2 _ _ d1 d2 E.1 E.1 i1 i2).mono ?_; rintro e w3 ⟨rfl, hb3⟩; rw [show decide (E.1 = E.1) = true from decide_eq_true rfl])
  have HB3 := hide (below_trans hbb2 hb3)
  clear hb3 hbb2 i1 i2
  refine (zoneW_any zi w3).mono ?_
  rintro e w4 ⟨⟨Z, AZ, m, cz, rfl, hinZ, hmemZ⟩, hb4⟩
  obtain ⟨hzZ, hoZ⟩ := wZones_ok Z hmemZ
  have HB4 := hide (below_trans HB3.out hb4)
  have HZ := hide hzZ
  clear hb4 hmemZ hzZ HB3
  go_wp2_with fail
  refine (placeW_any a 9000 (by omega) (by omega) _).mono ?_
  rintro e w5 ⟨rfl, rfl⟩
  have a0 : 0 ≤ a % 9000 := Int.emod_nonneg _ (by omega)
  have a1 : a % 9000 < 9000 := Int.emod_lt_of_pos _ (by omega)
  have b0 : 0 ≤ b % 5000 := Int.emod_nonneg _ (by omega)
  have b1 : b % 5000 < 5000 := Int.emod_lt_of_pos _ (by omega)
  have d0 : 0 ≤ cc % 5000 := Int.emod_nonneg _ (by omega)
  have d1 : cc % 5000 < 5000 := Int.emod_lt_of_pos _ (by omega)
  generalize a % 9000 = a' at *
  have qa : IntKind.i64.wrap (142000 + a') = 142000 + a' := IntWalk.i64_in _ (by omega)
  go_wp2
  have HT := hide (Tri.made w4 Z AZ m cz (142000 + a') 0 0)
  obtain ⟨l0, hl0⟩ : ∃ l0, l0 = 142000 + a' := ⟨_, rfl⟩
  rw [← hl0] at HT ⊢
  have r0 : 142000 ≤ l0 := by omega
  have r1 : l0 ≤ 151000 := by omega
  clear hl0 qa a0 a1
  generalize ((w4.alloc (.cells #[.string Z.name, .int .i64 Z.offset, .slice AZ m cz] 24)).alloc (.cells #[.int .i64 l0, .int .i64 0, .int .i64 0] 33)) = W5 at *
  have qb : IntKind.i64.wrap (l0 + b % 5000) = l0 + b % 5000 := IntWalk.i64_in _ (by omega)
  have c0 := HT.out.c0
  have c1 := HT.out.c1
  have c2 := HT.out.c2
  have f1 := HT.out.blk.frozen 1
  have f2 := HT.out.blk.frozen 2
  go_region_held3 (fun V => V.cell? ⟨w4.heap.size + 1, 0, none⟩ = some (.int .i64 l0)) (first | exact c0 | exact HT.out.drew.c0 | exact (HT.out.drew.set1 _).c0 | go_keep) (first | (go_at_call 10; refine (placeW_any b 5000 (by omega) (by omega) _).mono ?_; rintro e w' ⟨rfl, rfl⟩))
  have HT := hide (HT.out.set1 (l0 + b % 5000)).drew
  obtain ⟨l1, hl1⟩ : ∃ l1, l1 = l0 + b % 5000 := ⟨_, rfl⟩
  rw [← hl1] at HT ⊢
  have r2 : l0 ≤ l1 := by omega
  have r3 : l1 ≤ 156000 := by omega
  clear hl1 qb b0 b1 c0 c1 c2 f1 f2
  generalize (W5.setCell ⟨w4.heap.size + 1, 1, none⟩ (.int .i64 l1)).drew = W6 at *
  have qd : IntKind.i64.wrap (l1 + cc % 5000) = l1 + cc % 5000 := IntWalk.i64_in _ (by omega)
  have c0 := HT.out.c0
  have c1 := HT.out.c1
  have c2 := HT.out.c2
  have f2 := HT.out.blk.frozen 2
  go_wp2
  go_region_held3 (fun V => V.cell? ⟨w4.heap.size + 1, 1, none⟩ = some (.int .i64 l1)) (first | exact c1 | exact HT.out.drew.c1 | exact (HT.out.drew.set2 _).c1 | go_keep) (first | (go_at_call 10; refine (placeW_any cc 5000 (by omega) (by omega) _).mono ?_; rintro e w' ⟨rfl, rfl⟩))
  have HT := hide (HT.out.set2 (l1 + cc % 5000)).drew
  obtain ⟨l2, hl2⟩ : ∃ l2, l2 = l1 + cc % 5000 := ⟨_, rfl⟩
  rw [← hl2] at HT ⊢
  have r4 : l1 ≤ l2 := by omega
  have r5 : l2 ≤ 161000 := by omega
  clear hl2 qd d0 d1 c0 c1 c2 f2
  generalize (W6.setCell ⟨w4.heap.size + 1, 2, none⟩ (.int .i64 l2)).drew = W7 at *
  have z0 := HT.out.z0
  have z1 := HT.out.z1
  have z2 := HT.out.z2
  have c0 := HT.out.c0
  have c1 := HT.out.c1
  have c2 := HT.out.c2
  have HIZ := hide hinZ
  go_wp2_with fail
  refine (btw_any _ AZ m cz Z (hinZ.below HT.out.below) hoZ l0 l1).mono ?_
  rintro e w8 ⟨⟨U, du, rfl, su⟩, hb8⟩
  rw [btw_near HZ.out (by omega) r2 (by omega)] at su ⊢
  have HT := hide (HT.out.keep hb8)
  have z0 := HT.out.z0
  have z1 := HT.out.z1
  have z2 := HT.out.z2
  have c0 := HT.out.c0
  have c1 := HT.out.c1
  have c2 := HT.out.c2
  have HU := hide su.inn
  clear su hb8
  go_wp2_with fail
  refine (btw_any _ AZ m cz Z (hinZ.below HT.out.below) hoZ l1 l2).mono ?_
  rintro e w9 ⟨⟨V, dv, rfl, sv⟩, hb9⟩
  rw [btw_near HZ.out (by omega) r4 (by omega)] at sv ⊢
  have HT := hide (HT.out.keep hb9)
  have z0 := HT.out.z0
  have z1 := HT.out.z1
  have z2 := HT.out.z2
  have c0 := HT.out.c0
  have c1 := HT.out.c1
  have c2 := HT.out.c2
  have HV := hide sv.inn
  have HU := hide (HU.out.below hb9)
  clear sv hb9
  go_wp2_with fail
  refine (btw_any _ AZ m cz Z (hinZ.below HT.out.below) hoZ l0 l2).mono ?_
  rintro e w10 ⟨⟨X, dx, rfl, sx⟩, hb10⟩
  rw [btw_near HZ.out (by omega) (by omega) (by omega)] at sx ⊢
  have HBF := hide (below_trans (below_trans HB4.out HT.out.below) hb10)
  have HXX := hide sx.inn
  have HV := hide (HV.out.below hb10)
  have HU := hide (HU.out.below hb10)
  have HJ := hide (days_join Z (l1 - l0).toNat l0 l1 l2 (by omega) r2 r4 (by omega) (by omega))
  clear sx hb10 z0 z1 z2 c0 c1 c2
  have su4 := days_short HZ.out (a := l0) (b := l1) (by omega) (by omega)
  have sv4 := days_short HZ.out (a := l1) (b := l2) (by omega) (by omega)
  simp only [] at HXX HV HU ⊢
  generalize daysS Z l0 l1 = us at *
  generalize daysS Z l1 l2 = vs at *
  generalize daysS Z l0 l2 = xs at *
  have hu := HU.out.cap
  have hv := HV.out.cap
  obtain ⟨nu, hnu⟩ : ∃ nu, us.length = nu := ⟨_, rfl⟩
  obtain ⟨nv, hnv⟩ : ∃ nv, vs.length = nv := ⟨_, rfl⟩
  rw [hnu] at HU hu su4 ⊢
  rw [hnv] at HV hv sv4 ⊢
  have HNU := hide hnu
  have HNV := hide hnv
  clear hnu hnv HIZ HT hinZ
  by_cases h0 : nu = 0
  · have HEQ : Hid (us ++ vs = xs) := hide (by rw [← HJ.out, joinDays, if_neg (by rw [HNU.out, h0]; simp)])
    have q0 : decide (0 < nu) = false := by simp; omega
    have H0 := hide h0
    clear h0
    go_wp2
    go_quiet (fail)
    obtain ⟨cu, HCU, HSU⟩ := Sl.cells HU.out
    have hcu1 := cells_int_one HCU
    obtain ⟨nt, hnt⟩ : ∃ nt, nu + nv = nt := ⟨_, rfl⟩
    have HNT := hide hnt
    clear hnt
    have HCU := hide HCU
    have HSU := hide HSU
    go_wp2_with (first
      | (at_builtin; refine wpList_append_srcW _ rfl (.const (.slice none 0 0)) (.tmp 125) 26 rfl w10.heap.size 3 i0 _ 1 8 Try.underlying26 hi hz0 hz1 hz2 rfl (by decide) (.slice none 0 0) 0 [] rfl (World.ownsRow_nil _ _ _ _) U nu du cu rfl (fun h => by have := HU.out.2.2.2.1 h; have := HU.out.2.1; omega) HSU.out hcu1 (by simp only [maxLen]; omega) (by omega) (Nat.le_refl _) ?_; intro v1 w11 hown1 hg1 hat1; have HB11 : Hid (Below w10.heap.size w10 w11) := hide ((below_drewN (Below.refl _ w10) _).grown hg1 (Nat.le_refl _) (by simp [Value.ownBlock])); have HO11 : Hid (w11.ownsRow w10.heap.size 3 1 v1 nu cu) := hide (by simpa using hown1); have HIV11 := hide (HV.out.below HB11.out); obtain ⟨cv, HCV, HSV⟩ := Sl.cells HIV11.out; have hcv1 := cells_int_one HCV; have HCV := hide HCV; have HSV := hide HSV; clear hown1 hg1 hat1)
      | (at_builtin; refine wpList_append_srcW _ rfl (.tmp 126) (.tmp 127) 26 rfl w10.heap.size 3 i0 _ 1 8 Try.underlying26 hi hz0 hz1 hz2 rfl (by decide) v1 nu cu rfl HO11.out V nv dv cv rfl (fun h => by have := HIV11.out.2.2.2.1 h; have := HIV11.out.2.1; omega) HSV.out hcv1 (by simp only [maxLen]; omega) (by omega) HB11.out.size ?_; intro v2 w12 hown2 hg2 hat2; rw [HNT.out] at hown2; have HB12 : Hid (Below w10.heap.size w10 w12) := hide (HB11.out.grown hg2 HB11.out.size (fun j e => (HO11.out.lt j e).1)); obtain ⟨Av, cc2, hv2, hin2, _⟩ := sl_of_own (S := fun _ => False) (T := fun k => k < w12.heap.size) hown2 (Cells.app (cells_int_any HCV.out) (cells_int_any HCU.out)) (fun _ h => h.elim) (by rw [List.length_append, HNU.out, HV.out.len]; exact HNT.out) (fun g _ hg => hg.lt); subst hv2; have HIN2 := hide hin2; clear hown2 hg2 hat2 hin2))
    refine (sameInts_any _ _ _ _ _ _ _ (us ++ vs) xs HIN2.out (HXX.out.below HB12.out)).mono ?_
    rintro e w13 ⟨rfl, hb13⟩
    rw [decide_eq_true HEQ.out]
    have HB13 := hide (below_trans HB12.out hb13)
    clear hb13
    go_wp2_with fail
    refine (known_any _).mono ?_
    rintro e w14 ⟨rfl, hb14⟩
    have HB14 := hide (below_trans HB13.out hb14)
    clear hb14
    go_wp2
    go_ret
    exact ⟨rfl, below_trans HBF.out HB14.out⟩
  have q0 : decide (0 < nu) = true := by simp; omega
  have p0 : 0 < nu := by omega
  by_cases h1 : nv = 0
  · have HEQ : Hid (us ++ vs = xs) := hide (by rw [← HJ.out, joinDays, if_neg (by rw [HNV.out, h1]; simp)])
    have q1 : decide (0 < nv) = false := by simp; omega
    have H1 := hide h1
    clear h1
    go_wp2
    go_quiet (fail)
    obtain ⟨cu, HCU, HSU⟩ := Sl.cells HU.out
    have hcu1 := cells_int_one HCU
    obtain ⟨nt, hnt⟩ : ∃ nt, nu + nv = nt := ⟨_, rfl⟩
    have HNT := hide hnt
    clear hnt
    have HCU := hide HCU
    have HSU := hide HSU
    go_wp2_with (first
      | (at_builtin; refine wpList_append_srcW _ rfl (.const (.slice none 0 0)) (.tmp 125) 26 rfl w10.heap.size 3 i0 _ 1 8 Try.underlying26 hi hz0 hz1 hz2 rfl (by decide) (.slice none 0 0) 0 [] rfl (World.ownsRow_nil _ _ _ _) U nu du cu rfl (fun h => by have := HU.out.2.2.2.1 h; have := HU.out.2.1; omega) HSU.out hcu1 (by simp only [maxLen]; omega) (by omega) (Nat.le_refl _) ?_; intro v1 w11 hown1 hg1 hat1; have HB11 : Hid (Below w10.heap.size w10 w11) := hide ((below_drewN (Below.refl _ w10) _).grown hg1 (Nat.le_refl _) (by simp [Value.ownBlock])); have HO11 : Hid (w11.ownsRow w10.heap.size 3 1 v1 nu cu) := hide (by simpa using hown1); have HIV11 := hide (HV.out.below HB11.out); obtain ⟨cv, HCV, HSV⟩ := Sl.cells HIV11.out; have hcv1 := cells_int_one HCV; have HCV := hide HCV; have HSV := hide HSV; clear hown1 hg1 hat1)
      | (at_builtin; refine wpList_append_srcW _ rfl (.tmp 126) (.tmp 127) 26 rfl w10.heap.size 3 i0 _ 1 8 Try.underlying26 hi hz0 hz1 hz2 rfl (by decide) v1 nu cu rfl HO11.out V nv dv cv rfl (fun h => by have := HIV11.out.2.2.2.1 h; have := HIV11.out.2.1; omega) HSV.out hcv1 (by simp only [maxLen]; omega) (by omega) HB11.out.size ?_; intro v2 w12 hown2 hg2 hat2; rw [HNT.out] at hown2; have HB12 : Hid (Below w10.heap.size w10 w12) := hide (HB11.out.grown hg2 HB11.out.size (fun j e => (HO11.out.lt j e).1)); obtain ⟨Av, cc2, hv2, hin2, _⟩ := sl_of_own (S := fun _ => False) (T := fun k => k < w12.heap.size) hown2 (Cells.app (cells_int_any HCV.out) (cells_int_any HCU.out)) (fun _ h => h.elim) (by rw [List.length_append, HNU.out, HV.out.len]; exact HNT.out) (fun g _ hg => hg.lt); subst hv2; have HIN2 := hide hin2; clear hown2 hg2 hat2 hin2))
    refine (sameInts_any _ _ _ _ _ _ _ (us ++ vs) xs HIN2.out (HXX.out.below HB12.out)).mono ?_
    rintro e w13 ⟨rfl, hb13⟩
    rw [decide_eq_true HEQ.out]
    have HB13 := hide (below_trans HB12.out hb13)
    clear hb13
    go_wp2_with fail
    refine (known_any _).mono ?_
    rintro e w14 ⟨rfl, hb14⟩
    have HB14 := hide (below_trans HB13.out hb14)
    clear hb14
    go_wp2
    go_ret
    exact ⟨rfl, below_trans HBF.out HB14.out⟩
  have q1 : decide (0 < nv) = true := by simp; omega
  have p1 : 0 < nv := by omega
  obtain ⟨bu, ou, x, rfl, hBu, HXu, eu, eu'⟩ := HU.out.int (k := nu - 1) (by omega)
  obtain ⟨bv, ov, y, rfl, hBv, HYv, ev, ev'⟩ := HV.out.int (k := 0) (by omega)
  rw [Nat.add_zero] at ev
  have k0 : (0 : Int) ≤ (nu : Int) - 1 := by omega
  have k1 : (nu : Int) - 1 < (nu : Int) := by omega
  have k2 : ((nu : Int) - 1).toNat = nu - 1 := by omega
  have k3 : IntKind.i64.wrap ((nu : Int) - 1) = (nu : Int) - 1 := IntWalk.i64_in _ (by omega)
  have k4 : (0 : Int) < (nu : Int) := by omega
  have k5 : (0 : Int) < (nv : Int) := by omega
  have k6 : (1 : Int) ≤ (nv : Int) := by omega
  have k7 : (nv : Int) ≤ (dv : Int) := by omega
  have k8 : (1 : Int) ≤ (nu : Int) := by omega
  have HLU : Hid (us.getLastD 0 = x) := hide (by
    have h := (drop_get HXu.out).1
    rw [List.getLastD_eq_getLast?, List.getLast?_eq_getElem?, HNU.out, h]; rfl)
  have HLV : Hid (vs.headD 1 = y) := hide (by
    have h := HYv.out
    rw [List.drop_zero] at h
    rw [h]; rfl)
  by_cases hxy : x = y
  · have HEQ : Hid (us ++ vs.drop 1 = xs) := hide (by rw [← HJ.out, joinDays, if_pos (by rw [HNU.out, HNV.out, HLU.out, HLV.out, hxy]; simp; omega)])
    have q2 : (x == y) = true := by simpa using hxy
    have HIV := hide (Sl.from_ HV.out (k := 1) (by omega))
    clear hxy
    by_cases hdv : dv = 1
    · subst hdv
      have hnv1 : nv - 1 = 0 := by omega
      rw [if_pos rfl, hnv1] at HIV
      have HIV : Hid (In w10 (some ⟨bv, ov, none⟩) 0 0 (vs.drop 1)) := hide HIV.out
      clear hnv1
      go_wp2
      go_quiet (fail)
      obtain ⟨cu, HCU, HSU⟩ := Sl.cells HU.out
      have hcu1 := cells_int_one HCU
      obtain ⟨nt, hnt⟩ : ∃ nt, nu + 0 = nt := ⟨_, rfl⟩
      have HNT := hide hnt
      clear hnt
      have HCU := hide HCU
      have HSU := hide HSU
      go_wp2_with (first
        | (at_builtin; refine wpList_append_srcW _ rfl (.const (.slice none 0 0)) (.tmp 125) 26 rfl w10.heap.size 3 i0 _ 1 8 Try.underlying26 hi hz0 hz1 hz2 rfl (by decide) (.slice none 0 0) 0 [] rfl (World.ownsRow_nil _ _ _ _) (some ⟨bu, ou, none⟩) nu du cu rfl (fun h => by have := HU.out.2.2.2.1 h; have := HU.out.2.1; omega) HSU.out hcu1 (by simp only [maxLen]; omega) (by omega) (Nat.le_refl _) ?_; intro v1 w11 hown1 hg1 hat1; have HB11 : Hid (Below w10.heap.size w10 w11) := hide ((below_drewN (Below.refl _ w10) _).grown hg1 (Nat.le_refl _) (by simp [Value.ownBlock])); have HO11 : Hid (w11.ownsRow w10.heap.size 3 1 v1 nu cu) := hide (by simpa using hown1); have HIV11 := hide (HIV.out.below HB11.out); obtain ⟨cv, HCV, HSV⟩ := Sl.cells HIV11.out; have hcv1 := cells_int_one HCV; have HCV := hide HCV; have HSV := hide HSV; clear hown1 hg1 hat1)
        | (at_builtin; refine wpList_append_srcW _ rfl (.tmp 126) (.tmp 127) 26 rfl w10.heap.size 3 i0 _ 1 8 Try.underlying26 hi hz0 hz1 hz2 rfl (by decide) v1 nu cu rfl HO11.out (some ⟨bv, ov, none⟩) 0 0 cv rfl (fun h => by have := HIV11.out.2.2.2.1 h; have := HIV11.out.2.1; omega) HSV.out hcv1 (by simp only [maxLen]; omega) (by omega) HB11.out.size ?_; intro v2 w12 hown2 hg2 hat2; rw [HNT.out] at hown2; have HB12 : Hid (Below w10.heap.size w10 w12) := hide (HB11.out.grown hg2 HB11.out.size (fun j e => (HO11.out.lt j e).1)); obtain ⟨Av, cc2, hv2, hin2, _⟩ := sl_of_own (S := fun _ => False) (T := fun k => k < w12.heap.size) hown2 (Cells.app (cells_int_any HCV.out) (cells_int_any HCU.out)) (fun _ h => h.elim) (by rw [List.length_append, HNU.out, HIV.out.len]; exact HNT.out) (fun g _ hg => hg.lt); subst hv2; have HIN2 := hide hin2; clear hown2 hg2 hat2 hin2))
      refine (sameInts_any _ _ _ _ _ _ _ (us ++ (vs.drop 1)) xs HIN2.out (HXX.out.below HB12.out)).mono ?_
      rintro e w13 ⟨rfl, hb13⟩
      rw [decide_eq_true HEQ.out]
      have HB13 := hide (below_trans HB12.out hb13)
      clear hb13
      go_wp2_with fail
      refine (known_any _).mono ?_
      rintro e w14 ⟨rfl, hb14⟩
      have HB14 := hide (below_trans HB13.out hb14)
      clear hb14
      go_wp2
      go_ret
      exact ⟨rfl, below_trans HBF.out HB14.out⟩
    · rw [if_neg hdv] at HIV
      have hdi : ¬ (dv : Int) = 1 := by omega
      have HIV : Hid (In w10 (some ⟨bv, ov + 1, none⟩) (nv - 1) (dv - 1) (vs.drop 1)) := hide (by have h := HIV.out; rw [Option.map_some, add_at] at h; exact h)
      go_wp2
      go_quiet (fail)
      obtain ⟨cu, HCU, HSU⟩ := Sl.cells HU.out
      have hcu1 := cells_int_one HCU
      obtain ⟨nt, hnt⟩ : ∃ nt, nu + (nv - 1) = nt := ⟨_, rfl⟩
      have HNT := hide hnt
      clear hnt
      have HCU := hide HCU
      have HSU := hide HSU
      go_wp2_with (first
        | (at_builtin; refine wpList_append_srcW _ rfl (.const (.slice none 0 0)) (.tmp 125) 26 rfl w10.heap.size 3 i0 _ 1 8 Try.underlying26 hi hz0 hz1 hz2 rfl (by decide) (.slice none 0 0) 0 [] rfl (World.ownsRow_nil _ _ _ _) (some ⟨bu, ou, none⟩) nu du cu rfl (fun h => by have := HU.out.2.2.2.1 h; have := HU.out.2.1; omega) HSU.out hcu1 (by simp only [maxLen]; omega) (by omega) (Nat.le_refl _) ?_; intro v1 w11 hown1 hg1 hat1; have HB11 : Hid (Below w10.heap.size w10 w11) := hide ((below_drewN (Below.refl _ w10) _).grown hg1 (Nat.le_refl _) (by simp [Value.ownBlock])); have HO11 : Hid (w11.ownsRow w10.heap.size 3 1 v1 nu cu) := hide (by simpa using hown1); have HIV11 := hide (HIV.out.below HB11.out); obtain ⟨cv, HCV, HSV⟩ := Sl.cells HIV11.out; have hcv1 := cells_int_one HCV; have HCV := hide HCV; have HSV := hide HSV; clear hown1 hg1 hat1)
        | (at_builtin; refine wpList_append_srcW _ rfl (.tmp 126) (.tmp 127) 26 rfl w10.heap.size 3 i0 _ 1 8 Try.underlying26 hi hz0 hz1 hz2 rfl (by decide) v1 nu cu rfl HO11.out (some ⟨bv, ov + 1, none⟩) (nv - 1) (dv - 1) cv rfl (fun h => by have := HIV11.out.2.2.2.1 h; have := HIV11.out.2.1; omega) HSV.out hcv1 (by simp only [maxLen]; omega) (by omega) HB11.out.size ?_; intro v2 w12 hown2 hg2 hat2; rw [HNT.out] at hown2; have HB12 : Hid (Below w10.heap.size w10 w12) := hide (HB11.out.grown hg2 HB11.out.size (fun j e => (HO11.out.lt j e).1)); obtain ⟨Av, cc2, hv2, hin2, _⟩ := sl_of_own (S := fun _ => False) (T := fun k => k < w12.heap.size) hown2 (Cells.app (cells_int_any HCV.out) (cells_int_any HCU.out)) (fun _ h => h.elim) (by rw [List.length_append, HNU.out, HIV.out.len]; exact HNT.out) (fun g _ hg => hg.lt); subst hv2; have HIN2 := hide hin2; clear hown2 hg2 hat2 hin2))
      refine (sameInts_any _ _ _ _ _ _ _ (us ++ (vs.drop 1)) xs HIN2.out (HXX.out.below HB12.out)).mono ?_
      rintro e w13 ⟨rfl, hb13⟩
      rw [decide_eq_true HEQ.out]
      have HB13 := hide (below_trans HB12.out hb13)
      clear hb13
      go_wp2_with fail
      refine (known_any _).mono ?_
      rintro e w14 ⟨rfl, hb14⟩
      have HB14 := hide (below_trans HB13.out hb14)
      clear hb14
      go_wp2
      go_ret
      exact ⟨rfl, below_trans HBF.out HB14.out⟩
  · have HEQ : Hid (us ++ vs = xs) := hide (by rw [← HJ.out, joinDays, if_neg (by rw [HLU.out, HLV.out]; simp [hxy])])
    have q2 : (x == y) = false := by simpa using hxy
    clear hxy
    go_wp2
    go_quiet (fail)
    obtain ⟨cu, HCU, HSU⟩ := Sl.cells HU.out
    have hcu1 := cells_int_one HCU
    obtain ⟨nt, hnt⟩ : ∃ nt, nu + nv = nt := ⟨_, rfl⟩
    have HNT := hide hnt
    clear hnt
    have HCU := hide HCU
    have HSU := hide HSU
    go_wp2_with (first
      | (at_builtin; refine wpList_append_srcW _ rfl (.const (.slice none 0 0)) (.tmp 125) 26 rfl w10.heap.size 3 i0 _ 1 8 Try.underlying26 hi hz0 hz1 hz2 rfl (by decide) (.slice none 0 0) 0 [] rfl (World.ownsRow_nil _ _ _ _) (some ⟨bu, ou, none⟩) nu du cu rfl (fun h => by have := HU.out.2.2.2.1 h; have := HU.out.2.1; omega) HSU.out hcu1 (by simp only [maxLen]; omega) (by omega) (Nat.le_refl _) ?_; intro v1 w11 hown1 hg1 hat1; have HB11 : Hid (Below w10.heap.size w10 w11) := hide ((below_drewN (Below.refl _ w10) _).grown hg1 (Nat.le_refl _) (by simp [Value.ownBlock])); have HO11 : Hid (w11.ownsRow w10.heap.size 3 1 v1 nu cu) := hide (by simpa using hown1); have HIV11 := hide (HV.out.below HB11.out); obtain ⟨cv, HCV, HSV⟩ := Sl.cells HIV11.out; have hcv1 := cells_int_one HCV; have HCV := hide HCV; have HSV := hide HSV; clear hown1 hg1 hat1)
      | (at_builtin; refine wpList_append_srcW _ rfl (.tmp 126) (.tmp 127) 26 rfl w10.heap.size 3 i0 _ 1 8 Try.underlying26 hi hz0 hz1 hz2 rfl (by decide) v1 nu cu rfl HO11.out (some ⟨bv, ov, none⟩) nv dv cv rfl (fun h => by have := HIV11.out.2.2.2.1 h; have := HIV11.out.2.1; omega) HSV.out hcv1 (by simp only [maxLen]; omega) (by omega) HB11.out.size ?_; intro v2 w12 hown2 hg2 hat2; rw [HNT.out] at hown2; have HB12 : Hid (Below w10.heap.size w10 w12) := hide (HB11.out.grown hg2 HB11.out.size (fun j e => (HO11.out.lt j e).1)); obtain ⟨Av, cc2, hv2, hin2, _⟩ := sl_of_own (S := fun _ => False) (T := fun k => k < w12.heap.size) hown2 (Cells.app (cells_int_any HCV.out) (cells_int_any HCU.out)) (fun _ h => h.elim) (by rw [List.length_append, HNU.out, HV.out.len]; exact HNT.out) (fun g _ hg => hg.lt); subst hv2; have HIN2 := hide hin2; clear hown2 hg2 hat2 hin2))
    refine (sameInts_any _ _ _ _ _ _ _ (us ++ vs) xs HIN2.out (HXX.out.below HB12.out)).mono ?_
    rintro e w13 ⟨rfl, hb13⟩
    rw [decide_eq_true HEQ.out]
    have HB13 := hide (below_trans HB12.out hb13)
    clear hb13
    go_wp2_with fail
    refine (known_any _).mono ?_
    rintro e w14 ⟨rfl, hb14⟩
    have HB14 := hide (below_trans HB13.out hb14)
    clear hb14
    go_wp2
    go_ret
    exact ⟨rfl, below_trans HBF.out HB14.out⟩
end Go.Proofs.Ytlbhnfnecfllkaa
