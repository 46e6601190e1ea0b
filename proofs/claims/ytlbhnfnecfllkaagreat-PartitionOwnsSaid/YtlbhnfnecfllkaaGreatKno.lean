/-
  warehouselaw22.day, known: the closed example.
-/
import Derived.Test.YtlbhnfnecfllkaaGreatSplP
import Derived.Test.YtlbhnfnecfllkaaGreatBtw
import Derived.Test.YtlbhnfnecfllkaaGreatGad
import Derived.Test.YtlbhnfnecfllkaaGreatGae
namespace Go.Proofs.YtlbhnfnecfllkaaGreat
open Go.RowKit
set_option linter.unusedSimpArgs false
set_option linter.unusedVariables false

def kV (t : Int) : Val := ⟨4, t, ⟨#[]⟩⟩
def kRows : List Ent := [⟨[kV 1379], 2⟩, ⟨[kV 1380], 1⟩]
def kCols : List Col := [⟨⟨#[97, 116]⟩, 4, false⟩]
def kZone : Zone := ⟨⟨#[]⟩, 60, []⟩
theorem kV_ok {t : Int} (h0 : 0 ≤ t) (h1 : t ≤ 575999999) : (kV t).ok := ⟨⟨by show (-9223372036854775808 : Int) ≤ 4; decide, by show (4 : Int) ≤ 9223372036854775807; decide⟩, ⟨by show _ ≤ t; omega, by show t ≤ _; omega⟩, by show (⟨#[]⟩ : ByteArray).size ≤ 9223372036854775807; decide⟩
theorem day_law (t : Int) (w : World) : Calls Tryz.prog 32 #[.int .i64 t] w fun e w' => e = .returned (.slice (some ⟨w.heap.size, 0, none⟩) 1 1) ∧ w' = w.alloc (.cells #[.int .i64 4, .int .i64 t, .string ⟨#[]⟩] 65) := by
  go_enter Tryz.func32, Tryz.ntmps32
  go_wp2
  go_ret
  exact ⟨rfl, rfl⟩
theorem k_row (w : World) {t : Int} (h0 : 0 ≤ t) (h1 : t ≤ 575999999) : In (w.alloc (.cells #[.int .i64 4, .int .i64 t, .string ⟨#[]⟩] 65)) (some ⟨w.heap.size, 0, none⟩) 1 1 [kV t] :=
  in_built (heap_alloc_new w _) (Cells.one ⟨rfl, kV_ok h0 h1⟩) rfl (by decide)
theorem k_rows (w : World) : In (((w.alloc (.cells #[.int .i64 4, .int .i64 1379, .string ⟨#[]⟩] 65)).alloc (.cells #[.int .i64 4, .int .i64 1380, .string ⟨#[]⟩] 65)).alloc (.cells #[.slice (some ⟨w.heap.size, 0, none⟩) 1 1, .int .i64 2, .slice (some ⟨w.heap.size + 1, 0, none⟩) 1 1, .int .i64 1] 63)) (some ⟨w.heap.size + 1 + 1, 0, none⟩) 2 2 kRows := by
  have h1 := k_row w (t := 1379) (by omega) (by omega)
  have h2 := k_row (w.alloc (.cells #[.int .i64 4, .int .i64 1379, .string ⟨#[]⟩] 65)) (t := 1380) (by omega) (by omega)
  have hs : (w.alloc (.cells #[.int .i64 4, .int .i64 1379, .string ⟨#[]⟩] 65)).heap.size = w.heap.size + 1 := World.size_alloc _ _
  have h3 := (h1.below (below_alloc (o := .cells #[.int .i64 4, .int .i64 1380, .string ⟨#[]⟩] 65))).below (below_alloc (o := .cells #[.slice (some ⟨w.heap.size, 0, none⟩) 1 1, .int .i64 2, .slice (some ⟨w.heap.size + 1, 0, none⟩) 1 1, .int .i64 1] 63))
  have h4 := h2.below (below_alloc (o := .cells #[.slice (some ⟨w.heap.size, 0, none⟩) 1 1, .int .i64 2, .slice (some ⟨w.heap.size + 1, 0, none⟩) 1 1, .int .i64 1] 63))
  have h5 := heap_alloc_new ((w.alloc (.cells #[.int .i64 4, .int .i64 1379, .string ⟨#[]⟩] 65)).alloc (.cells #[.int .i64 4, .int .i64 1380, .string ⟨#[]⟩] 65)) (.cells #[.slice (some ⟨w.heap.size, 0, none⟩) 1 1, .int .i64 2, .slice (some ⟨w.heap.size + 1, 0, none⟩) 1 1, .int .i64 1] 63)
  rw [World.size_alloc, World.size_alloc] at h5
  rw [hs] at h4
  refine in_built h5 ⟨[_, _], [_, _], rfl, ⟨_, _, _, rfl, h3, ⟨by decide, by decide⟩⟩, Cells.one ⟨_, _, _, rfl, h4, ⟨by decide, by decide⟩⟩⟩ rfl (by decide)

theorem k_colsIn (w : World) : In (w.alloc (.cells #[.string ⟨#[97, 116]⟩, .int .i64 4, .bool false] 67)) (some ⟨w.heap.size, 0, none⟩) 1 1 kCols := by
  have h : Rep.rd (w.alloc (.cells #[.string ⟨#[97, 116]⟩, .int .i64 4, .bool false] 67)) (fun k => k < (w.alloc (.cells #[.string ⟨#[97, 116]⟩, .int .i64 4, .bool false] 67)).heap.size) [.string ⟨#[97, 116]⟩, .int .i64 4, .bool false] (⟨⟨#[97, 116]⟩, 4, false⟩ : Col) :=
    ⟨rfl, ⟨by show (⟨#[97, 116]⟩ : ByteArray).size ≤ 9223372036854775807; decide, by show (-9223372036854775808 : Int) ≤ 4; decide, by show (4 : Int) ≤ 9223372036854775807; decide⟩⟩
  exact in_built (heap_alloc_new w _) (Cells.one h) rfl (by decide)
theorem k_cols : colsErr kCols = 0 := by
  simp [kCols, colsErr, firstErr, colErr, isName, nameFrom, nameOk, byteAt, index, indexFrom, ByteArray.toList_eq, ByteArray.size]
theorem k_find : findS kCols ⟨#[97, 116]⟩ kZone = (0, 0) := by
  have h1 : index kCols ⟨#[97, 116]⟩ = 0 := by simp [kCols, index, indexFrom]
  have h2 : noStr ⟨#[97, 116]⟩ = false := by rw [noStr, ByteArray.toList_eq]; rfl
  rw [findS_ok k_cols (by simp [h2]) (by rw [h1]; omega) (by rw [h1]; decide), h1]
  rfl
theorem k_find2 : findS kCols ⟨#[]⟩ kZone = (-1, 0) := findS_none k_cols noStr_mt
theorem k_valid {t : Int} (h0 : 0 ≤ t) (h1 : t ≤ 575999999) : valid (kV t) = true := (made_time h0 h1).1
theorem k_rowErr {t : Int} (h0 : 0 ≤ t) (h1 : t ≤ 575999999) : rowErr kCols [kV t] = 0 := by
  have hv : valid ⟨4, t, ⟨#[]⟩⟩ = true := k_valid h0 h1
  simp [rowErr, kCols, firstErr, cellErr, hv, kV]
theorem k_ent {t m : Int} (h0 : 0 ≤ t) (h1 : t ≤ 575999999) (h2 : 1 ≤ m) (h3 : m ≤ 2) : entErr ⟨[kV t], m⟩ = 0 := by
  have hv := k_valid h0 h1
  have q : ¬ (m < -65536 ∨ 65536 < m) := by omega
  simp [entErr, firstErr, hv]
  omega
theorem k_bag : bagErr kRows = 0 := by
  have e1 := k_ent (t := 1379) (m := 2) (by omega) (by omega) (by omega) (by omega)
  have e2 := k_ent (t := 1380) (m := 1) (by omega) (by omega) (by omega) (by omega)
  have e3 : cmpRows [kV 1379] [kV 1380] < 0 := by decide
  have e4 : ¬ 0 ≤ cmpRows [kV 1379] [kV 1380] := by omega
  simp [bagErr, kRows, firstErr, bagErr1, e1, e2, e4]
theorem k_scheme : schemeErr kCols ⟨#[97, 116]⟩ kZone kRows = 0 := by
  rw [scheme_rows (by rw [k_find]) k_bag]
  have e1 := k_rowErr (t := 1379) (by omega) (by omega)
  have e2 := k_rowErr (t := 1380) (by omega) (by omega)
  simp [kRows, firstErr, e1, e2]
theorem k_day0 : dayRow 0 kZone [kV 1379] = 0 := by decide
theorem k_day1 : dayRow 0 kZone [kV 1380] = 1 := by decide
theorem k_split {ps : List Partn} (h : IsSplit 0 kZone kRows ps) : ps = [⟨0, [⟨[kV 1379], 2⟩]⟩, ⟨1, [⟨[kV 1380], 1⟩]⟩] := by
  refine h.unique ⟨[0, 1], by simp [Asc], fun d => ?_, ?_⟩
  · simp [daysR, kRows, k_day0, k_day1]
  · simp [ofDay, kRows, k_day0, k_day1]
theorem k_dayAt {t : Int} (h0 : 0 ≤ t) : dayAt kZone t = (t + 60) / 1440 := by
  show dayFrom t [] 0 60 = _
  rw [dayFrom, localDay]
  split
  · omega
  · have : 0 ≤ (t + 60) / 1440 := Int.ediv_nonneg (by omega) (by omega)
    omega
theorem k_start : startS kZone 1 = 1380 := by
  obtain ⟨a, b, c, d⟩ := startS_spec kZone 1
  by_cases h1 : startS kZone 1 < 1380
  · have := d (by omega)
    rw [k_dayAt a] at this
    omega
  · by_cases h2 : 1380 < startS kZone 1
    · have := c 1380 (by omega) h2
      rw [k_dayAt (by omega)] at this
      omega
    · omega
theorem k_start2 : 1381 ≤ startS kZone 2 := by
  obtain ⟨a, b, c, d⟩ := startS_spec kZone 2
  by_cases h1 : startS kZone 2 < 1381
  · have := d (by omega)
    rw [k_dayAt a] at this
    omega
  · omega
theorem k_zone : zoneErr kZone = 0 := by decide
theorem k_days : daysS kZone 1379 1381 = [0, 1] := by
  have e0 : dayAt kZone 1379 = 0 := by rw [k_dayAt (by omega)]; rfl
  have e1 : dayAt kZone 1380 = 1 := by rw [k_dayAt (by omega)]; rfl
  have hs := k_start2
  rw [daysS_step kZone (by omega) (by omega) (by omega), e0, show (0 : Int) + 1 = 1 from rfl, k_start, daysS_step kZone (by omega) (by omega) (by omega), e1, show (1 : Int) + 1 = 2 from rfl, daysS_nil kZone (by omega)]
theorem k_btw : btwE kZone 1379 1381 = ([0, 1], 0) := by
  rw [btwE, if_neg (by simp [k_zone]), if_neg (by omega), k_days, if_neg (by simp)]
theorem k_dayPS : dayPS kCols ⟨#[]⟩ kZone [kV 7] = (-1, 0) := by
  rw [dayPS, k_find2, if_neg (by simp), if_neg (by simp [k_rowErr (t := 7) (by omega) (by omega)]), dayRow, if_pos (by show (-1 : Int) < 0; omega)]

set_option maxHeartbeats 4000000 in
set_option maxRecDepth 100000 in
theorem known_any (w : World) : Calls Tryz.prog 11 #[] w fun e w' => e = .returned (.bool true) ∧ Below w.heap.size w w' := by
  go_enter Tryz.func11, Tryz.ntmps11
  go_wp2
  obtain ⟨W, hW⟩ : ∃ W, W = (w.alloc (.cells #[.string ⟨#[97, 116]⟩, .int .i64 4, .bool false] 67)).alloc (.cells #[.string ⟨#[]⟩, .int .i64 60, .slice none 0 0] 25) := ⟨_, rfl⟩
  have hb0 : Below w.heap.size w W := by rw [hW]; exact below_alloc2
  have g0 : W.cell? ⟨w.heap.size + 1, 0, none⟩ = some (.string ⟨#[]⟩) := by rw [hW]; simp [go_sem]
  have g1 : W.cell? ⟨w.heap.size + 1, 1, none⟩ = some (.int .i64 60) := by rw [hW]; simp [go_sem]
  have g2 : W.cell? ⟨w.heap.size + 1, 2, none⟩ = some (.slice none 0 0) := by rw [hW]; simp [go_sem]
  have HC : Hid (In W (some ⟨w.heap.size, 0, none⟩) 1 1 kCols) := hide (by
    rw [hW]
    exact (k_colsIn w).below below_alloc)
  have hl := lt_of_cell g0
  rw [← hW]
  clear hW
  have HX : Hid (∀ o1 o2 o3 : Obj, Below W.heap.size W (((W.drew.alloc o1).alloc o2).alloc o3)) := hide fun o1 o2 o3 => below_trans (below_trans (below_trans (Below.refl _ _).drew below_alloc) below_alloc) below_alloc
  have HL := hide hl
  have G0 := hide g0
  have G1 := hide g1
  have G2 := hide g2
  go_region_held3 (fun V => V.cell? ⟨w.heap.size + 1, 0, none⟩ = some (.string ⟨#[]⟩) ∧ V.cell? ⟨w.heap.size + 1, 1, none⟩ = some (.int .i64 60) ∧ V.cell? ⟨w.heap.size + 1, 2, none⟩ = some (.slice none 0 0))
    (first | exact ⟨g0, g1, g2⟩ | exact ⟨s0, s1, s2⟩ | exact ⟨bat (HX.out _ _ _) HL.out G0.out, bat (HX.out _ _ _) HL.out G1.out, bat (HX.out _ _ _) HL.out G2.out⟩ | go_keep)
    (first
      | (go_at_call 32; refine (day_law _ _).mono ?_; rintro e w' ⟨rfl, rfl⟩)
      | (go_at_call 12; refine (splitP_any _ _ 1 1 kCols (by exact HC.out.below (HX.out _ _ _)) ⟨#[97, 116]⟩ none 0 0 kZone (by exact In.nil_) (by exact ⟨by decide, by decide⟩) _ 2 2 kRows (by exact k_rows W.drew)).mono ?_; rintro e w4 ⟨⟨B, m, d, ps, rfl, hin, _, hsp⟩, hb4⟩; have hps := k_split (ps := ps) (by have h := hsp k_scheme; rw [k_find] at h; exact h); subst hps; have hb5 := below_trans (HX.out _ _ _) hb4; have s0 := bat hb5 HL.out G0.out; have s1 := bat hb5 HL.out G1.out; have s2 := bat hb5 HL.out G2.out; have HB5 := hide hb5; have HIN := hide hin; clear hb4 hb5 hin hsp; rw [k_scheme]))
  go_wp2
  have S0 := hide s0
  have S1 := hide s1
  have S2 := hide s2
  have HL4 := hide (lt_of_cell s0)
  have HC4 := hide (HC.out.below HB5.out)
  go_region_held3 (fun V => V.cell? ⟨w.heap.size + 1, 0, none⟩ = some (.string ⟨#[]⟩) ∧ V.cell? ⟨w.heap.size + 1, 1, none⟩ = some (.int .i64 60) ∧ V.cell? ⟨w.heap.size + 1, 2, none⟩ = some (.slice none 0 0))
    (first | exact ⟨s0, s1, s2⟩ | exact ⟨r0, r1, r2⟩ | go_keep)
    (first
      | (go_at_call 32; refine (day_law _ _).mono ?_; rintro e w' ⟨rfl, rfl⟩)
      | (go_at_call 33; refine (dayPS_any _ _ 1 1 kCols (by exact HC4.out.below (below_trans (Below.refl _ _).drew below_alloc)) ⟨#[]⟩ none 0 0 kZone (by exact In.nil_) (by exact ⟨by decide, by decide⟩) _ 1 1 [kV 7] (by exact k_row w4.drew (by omega) (by omega))).mono ?_; rintro e w6 ⟨rfl, hb6⟩; have hb7 := below_trans (below_trans (Below.refl _ w4).drew below_alloc) hb6; have r0 := bat hb7 HL4.out S0.out; have r1 := bat hb7 HL4.out S1.out; have r2 := bat hb7 HL4.out S2.out; have HB7 := hide hb7; clear hb6 hb7; rw [k_dayPS]))
  go_wp2_with fail
  refine (btw_any w6 none 0 0 kZone (by exact In.nil_) (by exact ⟨by decide, by decide⟩) 1379 1381).mono ?_
  rintro e w8 ⟨⟨B2, d2, rfl, hst⟩, hb8⟩
  rw [k_btw] at hst ⊢
  have hin8 := HIN.out.below (below_trans HB7.out hb8)
  have hbb := hide (below_trans (below_trans (below_trans hb0 HB5.out) HB7.out) hb8)
  have hm : m = 2 := by have := HIN.out.len; simpa using this.symm
  subst hm
  obtain ⟨b, off, x, rfl, hBb, HX1, A1, n1, c1, e0, e1, e2, e3⟩ := hin8.part (k := 0) (by omega)
  obtain ⟨b', off', y, eq, hBb', HY1, A2, n2, c2, f0, f1, f2, f3⟩ := hin8.part (k := 1) (by omega)
  injection eq with eq
  injection eq with q1 q2
  subst q1 q2
  have hx := HX1.out
  have hy := HY1.out
  simp only [List.drop_zero, List.drop_succ_cons, List.drop_nil, List.cons.injEq] at hx hy
  obtain ⟨rfl, _⟩ := hx
  obtain ⟨rfl, _⟩ := hy
  simp only [Nat.zero_mul, Nat.add_zero, Nat.one_mul] at e0 e1 f0 f1
  have hn1 : n1 = 1 := by have := e2.len; simpa using this.symm
  subst hn1
  obtain ⟨b2, off2, x2, rfl, hB2, HX2, A3, n3, c3, h0, h1, h2, h3⟩ := e2.ent (k := 0) (by omega)
  have hx2 := HX2.out
  simp only [List.drop_zero, List.cons.injEq] at hx2
  obtain ⟨rfl, _⟩ := hx2
  simp only [Nat.zero_mul, Nat.add_zero] at h0 h1
  obtain ⟨b3, off3, x3, rfl, hB3, HX3, i0, i1⟩ := hst.inn.int (k := 1) (by simp)
  have hx3 := HX3.out
  simp only [List.drop_succ_cons, List.drop_zero, List.cons.injEq] at hx3
  obtain ⟨rfl, _⟩ := hx3
  clear hst hin8 HX1 HY1 HX2 HX3 e2 f2 h2 hb8 s0 s1 s2 r0 r1 r2 g0 g1 g2 hb0
  go_wp2
  go_ret
  exact ⟨rfl, hbb.out⟩
end Go.Proofs.YtlbhnfnecfllkaaGreat
