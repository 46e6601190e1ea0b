/-
  warehouselaw28.CheckReferences.
-/
import Derived.Test.YtggejcekmehocaaGreatDoorGav
import Derived.Test.YtggejcekmehocaaGreatDoorGac
import Derived.Test.YtggejcekmehocaaGreatDoorGaj
import Derived.Test.YtggejcekmehocaaGreatDoorGax
import Derived.Test.YtggejcekmehocaaGreatDoorGab
namespace Go.Proofs.YtggejcekmehocaaGreatDoor
open Go.RowKit Go.Maps
set_option linter.unusedSimpArgs false
set_option linter.unusedVariables false
def Bt {α : Type} [Rep α] (B C : Nat) (w : World) (A : Option Addr) (n c : Nat) (xs : List α) : Prop := Sl w (fun k => B ≤ k ∧ k < C) A n c xs
theorem Bt.inn {α : Type} [Rep α] {B C : Nat} {w : World} {A : Option Addr} {n c : Nat} {xs : List α} (h : Bt B C w A n c xs) (hC : C ≤ w.heap.size) : In w A n c xs := Sl.mono (fun k hk => Nat.lt_of_lt_of_le hk.2 hC) h
theorem Bt.keep {α : Type} [Rep α] {B : Nat} {w w' : World} {A : Option Addr} {n c : Nat} {xs : List α} (h : Hi B w A n c xs) (hs : ∀ k, B ≤ k → k < w.heap.size → w'.heap[k]? = w.heap[k]?) : Bt B w.heap.size w' A n c xs := Sl.keep (fun k hk => hs k hk.1 hk.2) h
theorem eql_val (w : World) (a a' b b' : Int) (s s' : ByteArray) : (binOp .eql 74 (.agg #[.int .i64 a, .int .i64 b, .string s]) (.agg #[.int .i64 a', .int .i64 b', .string s'])).run Tryz.prog w = .ok (.bool (eqV ⟨a, b, s⟩ ⟨a', b', s'⟩)) w := by
  have u1 := Tryz.underlying3
  have u2 := Tryz.underlying9
  have a1 := Tryz.isAgg3
  have a2 := Tryz.isAgg9
  have z1 := Tryz.sizeOf3
  have z2 := Tryz.sizeOf9
  have hS : Tryz.prog.underlying 74 = some (.struct (Tryz.prog.fieldsOf 74)) := by kernel_rfl
  have hp : Tryz.prog.stoodInHeld 74 = false := by kernel_rfl
  rw [run_eql_struct, show (10000 : Nat) = 9999 + 1 from rfl, run_equalIn_agg w 9999 74 _ _ hS hp]
  simp only [Program.fieldsOf, Tryz.underlying74]
  go_simp
  rw [eqV]
  by_cases h1 : a = a' <;> by_cases h2 : b = b' <;> by_cases h3 : s.toList = s'.toList <;> simp [h1, h2, h3]
def reBad (rows orows : List Ent) : List Ent := rows.filter fun x => (x.row.getD 1 default).kind != 0 && !found orows (x.row.getD 1 default)
theorem re_call {rows orows : List Ent} (hto : TabOf shCols rows) (hoo : tabErr reO orows = 0) (W : World) (a0 a1 a2 a3 : Option Addr) (h0 : In W a0 1 1 [reNm]) (h1 : In W a1 1 1 [reNm]) (hw : Words W) (hc : In W a2 3 3 shCols) (hd : In W a3 2 2 reO) (A1 : Option Addr) (m1 c1 : Nat) (hr : In W A1 m1 c1 rows) (A2 : Option Addr) (m2 c2 : Nat) (ho : In W A2 m2 c2 orows) :
    Calls Tryz.prog 29 #[.agg #[.string ⟨#[99]⟩, .string ⟨#[]⟩, .int .i64 3, .slice a0 1 1, .string ⟨#[111]⟩, .slice a1 1 1, .int .i64 0, .int .i64 0, .slice none 0 0, .int .i64 0, .int .i64 0, .int .i64 0, .int .i64 0, .int .i64 0], .agg #[.string ⟨#[]⟩, .slice a2 3 3, .slice none 0 0, .slice A1 m1 c1], .agg #[.string ⟨#[]⟩, .slice a3 2 2, .slice none 0 0, .slice A2 m2 c2], .slice none 0 0] W
      fun e w' => (∃ v, e = .returned (.tuple #[v, .int .i64 0]) ∧ OE W.heap.size w' v (reBad rows orows)) ∧ Below W.heap.size W w' := by
  have h1 := violations_any W reChk a0 1 1 h0 a1 1 1 h1 none 0 0 In.nil_ hw ⟨#[]⟩ a2 3 3 shCols hc none 0 0 A1 m1 c1 rows hr ⟨#[]⟩ a3 2 2 reO hd none 0 0 A2 m2 c2 orows ho none 0 0 [] In.nil_ (by omega) (by omega) (by omega) (by omega)
  rw [re_viols hto hoo] at h1
  exact h1
theorem Hi.lower {α : Type} [Rep α] {B B' : Nat} {w : World} {A : Option Addr} {n c : Nat} {xs : List α} (h : Hi B w A n c xs) (hb : B' ≤ B) : Hi B' w A n c xs := Sl.mono (fun k hk => ⟨Nat.le_trans hb hk.1, hk.2⟩) h
def Cel (w : World) (a : Addr) (v : Value) : Prop := w.cell? a = some v
theorem Cel.below {w w' : World} {b o : Nat} {v : Value} (h : Cel w ⟨b, o, none⟩ v) (hb : Below w.heap.size w w') : Cel w' ⟨b, o, none⟩ v := bat hb (lt_of_cell h) h
theorem str_nm : Str reNm := by show (⟨#[110, 97, 109, 101]⟩ : ByteArray).size ≤ 9223372036854775807; decide
theorem re_start (w : World) : ∃ W, W = ((w.alloc (.cells #[.string ⟨#[110, 97, 109, 101]⟩] 9)).alloc (.cells #[.string ⟨#[110, 97, 109, 101]⟩] 9)).alloc (.cells #[.string ⟨#[99]⟩, .string ⟨#[]⟩, .int .i64 3, .slice (some ⟨w.heap.size, 0, none⟩) 1 1, .string ⟨#[111]⟩, .slice (some ⟨w.heap.size + 1, 0, none⟩) 1 1, .int .i64 0, .int .i64 0, .slice none 0 0, .int .i64 0, .int .i64 0, .int .i64 0, .int .i64 0, .int .i64 0] 27) ∧ Below w.heap.size w W ∧ Hid (W.heap.size = w.heap.size + 1 + 1 + 1) ∧ In W (some ⟨w.heap.size, 0, none⟩) 1 1 [reNm] ∧ In W (some ⟨w.heap.size + 1, 0, none⟩) 1 1 [reNm] ∧ Blk W (w.heap.size + 1 + 1) 27 [.string ⟨#[99]⟩, .string ⟨#[]⟩, .int .i64 3, .slice (some ⟨w.heap.size, 0, none⟩) 1 1, .string ⟨#[111]⟩, .slice (some ⟨w.heap.size + 1, 0, none⟩) 1 1, .int .i64 0, .int .i64 0, .slice none 0 0, .int .i64 0, .int .i64 0, .int .i64 0, .int .i64 0, .int .i64 0] := by
  have i1 := name_in (w.alloc (.cells #[.string ⟨#[110, 97, 109, 101]⟩] 9)) _ _ str_nm (Blk.made w _ _)
  have i2 := name_in ((w.alloc (.cells #[.string ⟨#[110, 97, 109, 101]⟩] 9)).alloc (.cells #[.string ⟨#[110, 97, 109, 101]⟩] 9)) _ _ str_nm (Blk.made (w.alloc (.cells #[.string ⟨#[110, 97, 109, 101]⟩] 9)) _ _)
  rw [World.size_alloc] at i2
  have kc := Blk.made ((w.alloc (.cells #[.string ⟨#[110, 97, 109, 101]⟩] 9)).alloc (.cells #[.string ⟨#[110, 97, 109, 101]⟩] 9)) #[.string ⟨#[99]⟩, .string ⟨#[]⟩, .int .i64 3, .slice (some ⟨w.heap.size, 0, none⟩) 1 1, .string ⟨#[111]⟩, .slice (some ⟨w.heap.size + 1, 0, none⟩) 1 1, .int .i64 0, .int .i64 0, .slice none 0 0, .int .i64 0, .int .i64 0, .int .i64 0, .int .i64 0, .int .i64 0] 27
  rw [World.size_alloc, World.size_alloc] at kc
  exact ⟨_, rfl, below_trans below_alloc2 below_alloc, hide (by rw [World.size_alloc, World.size_alloc, World.size_alloc]), (i1.below below_alloc).below below_alloc, i2.below below_alloc, kc⟩
theorem re_nums (W : World) (A : Option Addr) (n c : Nat) (l : List Int) (hl : In W A n c l) (A' : Option Addr) (n' c' : Nat) (l' : List Int) (hl' : In W A' n' c' l') (h1 : n ≤ 80) (h2 : n' ≤ 80) :
    ∃ V, V = (W.alloc (.cells #[.slice A n c, .int .i64 0] 51)).alloc (.cells #[.slice A' n' c', .int .i64 0] 51) ∧ Below W.heap.size W V ∧ Hid (V.heap.size = W.heap.size + 1 + 1) ∧ Num V W.heap.size A n c l 0 ∧ Num V (W.heap.size + 1) A' n' c' l' 0 := by
  have i2 := Num.made (W.alloc (.cells #[.slice A n c, .int .i64 0] 51)) A' n' c' l' (hl'.below below_alloc) (by omega)
  rw [World.size_alloc] at i2
  exact ⟨_, rfl, below_alloc2, hide (by rw [World.size_alloc, World.size_alloc]), (Num.made W A n c l hl (by omega)).below below_alloc, i2⟩
set_option maxHeartbeats 4000000 in
set_option maxRecDepth 100000 in
theorem lawRe28_any (w : World) (A : Option Addr) (n c : Nat) (l : List Int) (hl : In w A n c l) (A' : Option Addr) (n' c' : Nat) (l' : List Int) (hl' : In w A' n' c' l') (hw : Words w) :
    Calls Tryz.prog 9 #[.slice A n c, .slice A' n' c'] w fun e w' => e = .returned (.bool true) ∧ Below w.heap.size w w' := by
  have h63 := hl.le
  have h64 := hl'.le
  by_cases q0 : 80 < n
  · have d0 : (80 : Int) < (n : Int) := by omega
    go_enter Tryz.func9, Tryz.ntmps9
    have HW := hide hw
    clear hw
    go_wp2_with fail
    all_goals (try (exfalso; go_light; simp_all; done))
    refine (known28_any _ HW.out).mono ?_
    rintro e w1 ⟨rfl, hb1⟩
    have SG2 := hide hb1
    clear hb1
    go_wp2
    go_ret
    exact ⟨rfl, SG2.out⟩
  by_cases q1 : 80 < n'
  · have d0 : ¬ (80 : Int) < (n : Int) := by omega
    have d1 : (80 : Int) < (n' : Int) := by omega
    go_enter Tryz.func9, Tryz.ntmps9
    have HW := hide hw
    clear hw
    go_wp2_with fail
    all_goals (try (exfalso; go_light; simp_all; done))
    refine (known28_any _ HW.out).mono ?_
    rintro e w3 ⟨rfl, hb3⟩
    have SG4 := hide hb3
    clear hb3
    go_wp2
    go_ret
    exact ⟨rfl, SG4.out⟩
  have d0 : ¬ (80 : Int) < (n : Int) := by omega
  have d1 : ¬ (80 : Int) < (n' : Int) := by omega
  go_enter Tryz.func9, Tryz.ntmps9
  go_upto_region 4 with (fail)
  all_goals (try (exfalso; go_light; simp_all; done))
  obtain ⟨W3, hW3, hb3, HS3, hi1, hi2, hkc⟩ := re_start w
  rw [← hW3]
  clear hW3
  have hlb := hl.below hb3
  have hlb' := hl'.below hb3
  have hwb := hw.below hb3
  have HB3 := hide hb3
  clear hb3 hl hl' hw
  have HLX := hide hlb'
  have HL := hide hlb
  clear hlb
  have HL2 := hide hlb'
  clear hlb'
  have HW := hide hwb
  clear hwb
  have HI1 := hide hi1
  clear hi1
  have HI2 := hide hi2
  clear hi2
  have KC := hide hkc
  clear hkc
  go_wp2_with fail
  obtain ⟨W5, hW5, hb5, HS5, hn1, hn2⟩ := re_nums W3 A n c l HL.out A' n' c' l' HL2.out (by omega) (by omega)
  rw [← hW5]
  clear hW5
  have SG5 := hide hb5
  clear hb5
  have HN1 := hide hn1
  clear hn1
  have HN2 := hide hn2
  clear hn2
  refine (columnsW_0 _).mono ?_
  rintro e w6 ⟨⟨rfl, hc1⟩, hb6⟩
  have SG7 := hide hb6
  clear hb6
  have hc1 := hi_of (B := W3.heap.size + 2) hc1 (fun _ _ _ _ h => h) (fun b off e => by injection e with e; injection e with e1 e2; have := HS5.out; omega)
  have HC1 := hide hc1
  clear hc1
  have HZ6 := hide SG7.out.size
  go_wp2_with fail
  refine (columnsW_0 _).mono ?_
  rintro e w8 ⟨⟨rfl, hc2⟩, hb8⟩
  have SG9 := hide hb8
  clear hb8
  have hc2 := hi_of (B := W3.heap.size + 2) hc2 (fun _ _ _ _ h => h) (fun b off e => by injection e with e; injection e with e1 e2; have := HS5.out; have := HZ6.out; omega)
  have HC2 := hide hc2
  clear hc2
  go_wp2_with fail
  obtain ⟨WA, rfl⟩ : ∃ W, W = w8 := ⟨_, rfl⟩
  have BC10 := hide (below_trans SG7.out SG9.out)
  have hn2 := (HN2.out.below BC10.out)
  have hc1 := (HC1.out.below SG9.out)
  have hbA := (below_trans (below_trans SG5.out SG7.out) SG9.out)
  refine (tabH_any _ W3.heap.size A n c l 0 (HN1.out.below BC10.out) _ 3 3 shCols (HC2.out.off (by omega)) sh_in.1 8 (by omega) (by omega)).mono ?_
  rintro e w8 ⟨⟨A1, c1, rows, j, rfl, hi8, hto, _⟩, hg8⟩
  have hb8 := below_of_grown hbA hg8 hbA.size (Nat.le_refl _)
  have hn2 := hn2.other HLX.out hbA (Nat.le_refl _) (by omega) (by omega) hg8
  have hz5 : W3.heap.size + 2 ≤ WA.heap.size := by have := HS5.out; have := (below_trans SG7.out SG9.out).size; omega
  have hc1 := hc1.grown hg8 (fun k e => by injection e with e; omega)
  obtain ⟨m1, hm1⟩ : ∃ m, rows.length = m := ⟨_, rfl⟩
  rw [hm1] at hi8 ⊢
  have hi8 := hi8.lower hz5
  have hz8 : W3.heap.size + 2 ≤ w8.heap.size := Nat.le_trans hz5 hg8.size
  have HX8 := hide hb8
  have HZ8 := hide hz8
  have HLEN := hide hm1
  have HTO := hide hto
  have h5 := hi8.inn.le
  clear hbA hb8 hz5 hz8 hm1 hto hg8 HN1 HN2 HC1 HC2 HZ6
  have HN2 := hide hn2
  clear hn2
  have HC1 := hide hc1
  clear hc1
  have HR1 := hide hi8
  clear hi8
  go_upto_region 6 with (fail)
  obtain ⟨W9, hW9⟩ : ∃ W, W = w8.alloc (.cells #[.string ⟨#[]⟩, .slice (some ⟨W5.heap.size, 0, none⟩) 3 3, .slice none 0 0, .slice A1 m1 c1] 32) := ⟨_, rfl⟩
  have kr : Blk W9 w8.heap.size 32 [.string ⟨#[]⟩, .slice (some ⟨W5.heap.size, 0, none⟩) 3 3, .slice none 0 0, .slice A1 m1 c1] := by rw [hW9]; exact Blk.made _ _ _
  have hbr : Below w8.heap.size w8 W9 := by rw [hW9]; exact below_alloc
  rw [← hW9]
  clear hW9
  have hbr9 := hide hbr
  have SG11 := hide hbr
  clear hbr
  have KR := hide kr
  clear kr
  go_wp2_with fail
  refine (columnsW_2 _).mono ?_
  rintro e w12 ⟨⟨rfl, hc3⟩, hb12⟩
  have SG13 := hide hb12
  clear hb12
  have hc3 := hi_of (B := W3.heap.size + 2) hc3 (fun _ _ _ _ h => h) (fun b off e => by injection e with e; injection e with e1 e2; have := HZ8.out; have h := hbr9.out.size; omega)
  have HC3 := hide hc3
  clear hc3
  have HZ6 := hide SG13.out.size
  go_wp2_with fail
  refine (columnsW_2 _).mono ?_
  rintro e w14 ⟨⟨rfl, hc4⟩, hb14⟩
  have SG15 := hide hb14
  clear hb14
  have hc4 := hi_of (B := W3.heap.size + 2) hc4 (fun _ _ _ _ h => h) (fun b off e => by injection e with e; injection e with e1 e2; have := HZ8.out; have h := hbr9.out.size; have := HZ6.out; omega)
  have HC4 := hide hc4
  clear hc4
  go_wp2_with fail
  obtain ⟨WB, rfl⟩ : ∃ W, W = w14 := ⟨_, rfl⟩
  have BC16 := hide (below_trans (below_trans SG11.out SG13.out) SG15.out)
  have hc1 := (HC1.out.below BC16.out)
  have hc3 := (HC3.out.below SG15.out)
  have hr1 := (HR1.out.below BC16.out)
  have BC17 := hide (below_trans SG13.out SG15.out)
  have hkr := (KR.out.below BC17.out)
  have hbA := (below_trans (below_trans (below_trans HX8.out SG11.out) SG13.out) SG15.out)
  refine (tabH_any _ (W3.heap.size + 1) A' n' c' l' 0 (HN2.out.below BC16.out) _ 2 2 reO (HC4.out.off (by omega)) sh_in.2 3 (by omega) (by omega)).mono ?_
  rintro e w13 ⟨⟨A2, c2, arows, j2, rfl, hi13, hta, hn2⟩, hg13⟩
  have hb13 := below_of_grown hbA hg13 hbA.size (by omega)
  have hz5 : W3.heap.size + 2 ≤ WB.heap.size := by have := HZ8.out; have h := hbr9.out.size; have := (below_trans SG13.out SG15.out).size; omega
  have hc1 := hc1.grown hg13 (fun k e => by injection e with e; omega)
  have hc3 := hc3.grown hg13 (fun k e => by injection e with e; omega)
  have hr1 := hr1.grown hg13 (fun k e => by injection e with e; omega)
  have hkr := hkr.grown hg13 (fun e => by injection e with e; have := HZ8.out; omega)
  obtain ⟨m2, hm2⟩ : ∃ m, arows.length = m := ⟨_, rfl⟩
  rw [hm2] at hi13 ⊢
  have hi13 := hi13.lower hz5
  have hz13 : W3.heap.size + 2 ≤ w13.heap.size := Nat.le_trans hz5 hg13.size
  have HX13 := hide hb13
  have HZ13 := hide hz13
  have HLENA := hide hm2
  have HTA := hide hta
  have h6 := hi13.inn.le
  have hlt : w8.heap.size < w13.heap.size := hkr.lt
  have HLT := hide hlt
  clear hbA hb13 hz5 hz13 hm2 hta hg13 HN2 HC1 HC3 HC4 HZ6 HR1 KR hlt hbr9
  have hc1' := hc1
  have hc3' := hc3
  have hr1' := hr1
  have hi13' := hi13
  have BC1 := hide hc1'
  have BC3 := hide hc3'
  have BR1 := hide hr1'
  have BR2 := hide hi13'
  clear hc1' hc3' hr1' hi13'
  have HN2 := hide hn2
  clear hn2
  have HC1 := hide hc1
  clear hc1
  have HC3 := hide hc3
  clear hc3
  have HR1 := hide hr1
  clear hr1
  have HR2 := hide hi13
  clear hi13
  have KR := hide hkr
  clear hkr
  go_upto_region 7 with (fail)
  obtain ⟨W14, hW14⟩ : ∃ W, W = w13.alloc (.cells #[.string ⟨#[]⟩, .slice (some ⟨W9.heap.size, 0, none⟩) 2 2, .slice none 0 0, .slice A2 m2 c2] 32) := ⟨_, rfl⟩
  have kr : Blk W14 w13.heap.size 32 [.string ⟨#[]⟩, .slice (some ⟨W9.heap.size, 0, none⟩) 2 2, .slice none 0 0, .slice A2 m2 c2] := by rw [hW14]; exact Blk.made _ _ _
  have hbr : Below w13.heap.size w13 W14 := by rw [hW14]; exact below_alloc
  rw [← hW14]
  clear hW14
  have SG18 := hide hbr
  clear hbr
  have KA := hide kr
  clear kr
  have KA14 := hide KA.out
  obtain ⟨lta, s0, s1, s2, s3⟩ := KA.out.ats4
  go_upto_region 8 with (fail)
  clear s0 s1 s2 s3
  obtain ⟨W15, hW15⟩ : ∃ W, W = W14.alloc (.cells #[.string ⟨#[]⟩, .slice (some ⟨W9.heap.size, 0, none⟩) 2 2, .slice none 0 0, .slice A2 m2 c2] 32) := ⟨_, rfl⟩
  have kr : Blk W15 W14.heap.size 32 [.string ⟨#[]⟩, .slice (some ⟨W9.heap.size, 0, none⟩) 2 2, .slice none 0 0, .slice A2 m2 c2] := by rw [hW15]; exact Blk.made _ _ _
  have hbr : Below W14.heap.size W14 W15 := by rw [hW15]; exact below_alloc
  rw [← hW15]
  clear hW15
  have SG19 := hide hbr
  clear hbr
  have KB := hide kr
  clear kr
  obtain ⟨VA, rfl⟩ : ∃ W, W = W15 := ⟨_, rfl⟩
  have hbA := (below_trans (below_trans HX13.out SG18.out) SG19.out)
  have HA13 := hide (below_trans SG18.out SG19.out)
  have BC20 := hide (below_trans SG18.out SG19.out)
  have hn2 := (HN2.out.below BC20.out)
  have hc1 := (HC1.out.below BC20.out)
  have hc3 := (HC3.out.below BC20.out)
  have hr1 := (HR1.out.below BC20.out)
  have hr2 := (HR2.out.below BC20.out)
  have hkr := (KR.out.below BC20.out)
  have hka := (KA.out.below SG19.out)
  have hkb := KB.out
  have hz5 : W3.heap.size + 2 ≤ VA.heap.size := Nat.le_trans HZ13.out (Nat.le_of_lt hka.lt)
  have hab : w13.heap.size < W14.heap.size := by have h : w13.heap.size < W14.heap.size := KA14.out.lt; exact h
  have rn : W3.heap.size + 1 < W3.heap.size + 2 := Nat.lt_succ_self _
  have z13 := HZ13.out
  have z8 := HZ8.out
  have hlt := HLT.out
  have Hn2 := hide hn2
  have Hc1 := hide hc1
  have Hc3 := hide hc3
  have Hr1 := hide hr1
  have Hr2 := hide hr2
  have Hkr := hide hkr
  have Hka := hide hka
  have Hkb := hide hkb
  have HbA := hide hbA
  have Hab := hide hab
  have s1 := hka.at 1 rfl
  have s3 := hka.at 3 rfl
  have S1 := hide s1
  have S3 := hide s3
  clear hn2 hc1 hc3 hr1 hr2 hkr hka hkb hbA hab HN2 HC1 HC3 HR1 HR2 KR KA KB
  have mk0 : True := trivial
  go_region_held3 (fun V => V.cell? ⟨w13.heap.size, 1, none⟩ = some (.slice (some ⟨W9.heap.size, 0, none⟩) 2 2) ∧ V.cell? ⟨w13.heap.size, 3, none⟩ = some (.slice A2 m2 c2))
    (first | exact ⟨set_far (Ka17.out.at 1 rfl) (.inl (Nat.ne_of_lt Hab.out)), set_far (Ka17.out.at 3 rfl) (.inl (Nat.ne_of_lt Hab.out))⟩ | exact ⟨Ka17.out.at 1 rfl, Ka17.out.at 3 rfl⟩ | exact ⟨Ka16.out.at 1 rfl, Ka16.out.at 3 rfl⟩ | exact ⟨S1.out, S3.out⟩)
    (first | (clear mk0; go_at_call 33; refine (tabH_any _ (W3.heap.size + 1) A' n' c' l' j2 (by exact Hn2.out.below (Below.refl _ _).drew) _ 2 2 reO (by exact (Hc3.out.below (Below.refl _ _).drew).off rn) sh_in.2 3 (by omega) (by omega)).mono ?_; rintro e w16 ⟨⟨A3, c3, brows, j3, rfl, hi16, htb, hn16⟩, hg16⟩; have HK16 : Hid (∀ k, W3.heap.size + 2 ≤ k → k < w13.heap.size → w16.heap[k]? = VA.heap[k]?) := hide (fun k k1 k2 => hg16.block k (by have h := Hka.out.lt; exact Nat.lt_trans k2 h) (fun e => by injection e with e; omega)); have HB16 := hide (below_of_grown (HbA.out.drew) hg16 (HbA.out.drew).size (Nat.le_succ _)); have hr := (fun k e => by injection e with e; omega : ∀ k, some (W3.heap.size + 1) = some k → k < W3.heap.size + 2); have Hc16 := hide ((Hc1.out.below (Below.refl _ _).drew).grown hg16 hr); have Hr16 := hide ((Hr1.out.below (Below.refl _ _).drew).grown hg16 hr); have Hs16 := hide ((Hr2.out.below (Below.refl _ _).drew).grown hg16 hr); have Hk16 := hide ((Hc3.out.below (Below.refl _ _).drew).grown hg16 hr); have Kr16 := hide ((Hkr.out.below (Below.refl _ _).drew).grown hg16 (fun e => by injection e with e; omega)); have Ka16 := hide ((Hka.out.below (Below.refl _ _).drew).grown hg16 (fun e => by injection e with e; omega)); have Kb16 := hide ((Hkb.out.below (Below.refl _ _).drew).grown hg16 (fun e => by injection e with e; have := Hab.out; omega)); obtain ⟨m3, hm3⟩ : ∃ m, brows.length = m := ⟨_, rfl⟩; rw [hm3] at hi16 ⊢; have Hi16 := hide hi16.inn; have HTB := hide htb; clear hi16 htb hn16 hg16 hm3 hr; have mk1 : True := trivial) | (clear mk1; go_at_call 22; refine (add_ref6 _ A2 m2 c2 arows (by exact Hs16.out.inn) A3 m3 c3 brows (by exact Hi16.out)).mono ?_; rintro e w17 ⟨⟨v17, rfl, hoe⟩, hb17⟩; obtain ⟨A4, d4, rfl⟩ := hoe.form; have HO17 := hide hoe; have HB17 := hide hb17; have Ka17 := hide (Ka16.out.below hb17); have Kb17 := hide (Kb16.out.below hb17); have y3 := Kb17.out.fz 3; have x3 := Kb17.out.at 3 rfl; clear hoe hb17; have mk2 : True := trivial))
  have hs : ∀ k, W3.heap.size + 2 ≤ k → k < w13.heap.size → (w17.setCell ⟨W14.heap.size, 3, none⟩ (.slice A4 (addS arows brows).2.length d4)).heap[k]? = VA.heap[k]? := fun k k1 k2 => by
    rw [Below.heap_setCell _ _ _ _ (show k ≠ W14.heap.size by have := Hab.out; omega), HB17.out.block k (by have := Kb16.out.lt; have := Hab.out; omega)]
    exact HK16.out k k1 k2
  have hbX : Below W3.heap.size W3 (w17.setCell ⟨W14.heap.size, 3, none⟩ (.slice A4 (addS arows brows).2.length d4)) := below_set (below_trans HB16.out HB17.out) (by have := Hab.out; have := HZ13.out; omega) _ _
  obtain ⟨htt, hmore⟩ := add_tab (by simp [reO]) HTA.out HTB.out
  obtain ⟨sum, hsum⟩ : ∃ s, (addS arows brows).2 = s := ⟨_, rfl⟩
  rw [hsum] at htt hmore HO17 hs hbX ⊢
  have HTT := hide htt
  have HMORE := hide hmore
  obtain ⟨m4, hm4⟩ : ∃ m, sum.length = m := ⟨_, rfl⟩
  rw [hm4] at HO17 hs hbX ⊢
  have kr := (Kr16.out.below HB17.out).far (b := W14.heap.size) (by have := Hab.out; have := HLT.out; omega) 3 (.slice A4 m4 d4)
  have ka := Ka17.out.far (b := W14.heap.size) (Nat.ne_of_lt Hab.out) 3 (.slice A4 m4 d4)
  have kb := Kb17.out.set 3 (.slice A4 m4 d4)
  have ho18 := ol_in (HO17.out.off Kb17.out.ty (.inr fun _ h => h) (by decide) (by decide) 3 (.slice A4 m4 d4)) hm4
  simp only [List.set_cons_zero, List.set_cons_succ] at kb
  have hsz : w13.heap.size ≤ (w17.setCell ⟨W14.heap.size, 3, none⟩ (.slice A4 m4 d4)).heap.size := Nat.le_of_lt ka.lt
  obtain ⟨W18, hW18⟩ : ∃ W, W = w17.setCell ⟨W14.heap.size, 3, none⟩ (.slice A4 m4 d4) := ⟨_, rfl⟩
  rw [← hW18] at hs hbX kr ka kb ho18 hsz ⊢
  have hs' : ∀ k, W3.heap.size + 2 ≤ k → k < w13.heap.size → W18.heap[k]? = w13.heap[k]? := fun k k1 k2 => (hs k k1 k2).trans (HA13.out.block k k2)
  have hc1 := (Bt.keep BC1.out hs').inn hsz
  have hc3 := (Bt.keep BC3.out hs').inn hsz
  have hr1 := (Bt.keep BR1.out hs').inn hsz
  have hr2 := (Bt.keep BR2.out hs').inn hsz
  have HX18 := hide hbX
  clear hs hs' hbX hW18 hsz htt hmore hsum hm4 HB16 HB17 HK16 Hc16 Hr16 Hs16 Hk16 Kr16 Ka16 Kb16 Ka17 Kb17 Hi16 HO17 y3 x3 mk2 Hn2 Hc1 Hc3 Hr1 Hr2 Hkr Hka Hkb HbA Hab S1 S3 HA13 BC1 BC3 BR1 BR2 HTB KA14 HX13 HX8
  have HC1 := hide hc1
  clear hc1
  have HC3 := hide hc3
  clear hc3
  have HR1 := hide hr1
  clear hr1
  have HR2 := hide hr2
  clear hr2
  have HRB := hide ho18
  clear ho18
  have KR := hide kr
  clear kr
  have KA := hide ka
  clear ka
  have KB := hide kb
  clear kb
  obtain ⟨-, g0, g1, g2, g3, g4, g5, g6, g7, g8, g9, g10, g11, g12, g13⟩ := (KC.out.below HX18.out).ats14
  obtain ⟨-, r0, r1, r2, r3⟩ := KR.out.ats4
  obtain ⟨-, s0, s1, s2, s3⟩ := KA.out.ats4
  go_wp2_with fail
  refine (re_call HTO.out (HTA.out.tab (by simp [reO])).2 _ _ _ _ _ (HI1.out.below HX18.out) (HI2.out.below HX18.out) (HW.out.below HX18.out) HC1.out HC3.out _ _ _ HR1.out _ _ _ HR2.out).mono ?_
  rintro e w21 ⟨⟨v1, rfl, ho1⟩, hb21⟩
  have SG22 := hide hb21
  clear hb21
  obtain ⟨B1, e1, rfl⟩ := ho1.form
  obtain ⟨mx, hmx⟩ : ∃ m, (reBad rows arows).length = m := ⟨_, rfl⟩
  rw [hmx] at ho1 ⊢
  have hx1 := ol_in ho1 hmx
  clear ho1 hmx g0 g1 g2 g3 g4 g5 g6 g7 g8 g9 g10 g11 g12 g13 r0 r1 r2 r3 s0 s1 s2 s3
  have HX1 := hide hx1
  clear hx1
  have BC23 := hide (below_trans HX18.out SG22.out)
  obtain ⟨-, g0, g1, g2, g3, g4, g5, g6, g7, g8, g9, g10, g11, g12, g13⟩ := (KC.out.below BC23.out).ats14
  obtain ⟨-, r0, r1, r2, r3⟩ := (KR.out.below SG22.out).ats4
  obtain ⟨-, s0, s1, s2, s3⟩ := (KB.out.below SG22.out).ats4
  go_wp2_with fail
  refine (re_call HTO.out HTT.out _ _ _ _ _ (HI1.out.below BC23.out) (HI2.out.below BC23.out) (HW.out.below BC23.out) (HC1.out.below SG22.out) (HC3.out.below SG22.out) _ _ _ (HR1.out.below SG22.out) _ _ _ (HRB.out.below SG22.out)).mono ?_
  rintro e w24 ⟨⟨v2, rfl, ho2⟩, hb24⟩
  have SG25 := hide hb24
  clear hb24
  obtain ⟨B2, e2, rfl⟩ := ho2.form
  obtain ⟨my, hmy⟩ : ∃ m, (reBad rows sum).length = m := ⟨_, rfl⟩
  rw [hmy] at ho2 ⊢
  have hx2 := ol_in ho2 hmy
  clear ho2 hmy g0 g1 g2 g3 g4 g5 g6 g7 g8 g9 g10 g11 g12 g13 r0 r1 r2 r3 s0 s1 s2 s3
  have HX2 := hide hx2
  clear hx2
  obtain ⟨WL, rfl⟩ : ∃ W, W = w24 := ⟨_, rfl⟩
  have BC26 := hide (below_trans (below_trans HX18.out SG22.out) SG25.out)
  have HWL := hide (HW.out.below BC26.out)
  have BC27 := hide (below_trans SG22.out SG25.out)
  have HRL := hide (HR1.out.below BC27.out)
  have HAL := hide (HR2.out.below BC27.out)
  have KRL := hide (KR.out.below BC27.out)
  have KAL := hide (KA.out.below BC27.out)
  have KBL := hide (KB.out.below BC27.out)
  have HX2L := hide HX2.out
  have HX1L := hide (HX1.out.below SG25.out)
  have HBL := hide (below_trans HB3.out (below_trans (below_trans HX18.out SG22.out) SG25.out))
  clear HW HR1 HR2 HRB KR KA KB KC HX1 HX2 HI1 HI2 HC1 HC3 HL HL2 HLX
  go_wp2
  go_loopg [15] m1 (fun left i wr => ∃ k : Nat, k + left = m1 ∧ i = .int .i64 k ∧ Below WL.heap.size WL wr)
  case atStart => exact ⟨0, by omega, rfl, Below.refl _ _⟩
  case round =>
    obtain ⟨k, hk, rfl, hb⟩ := hrel
    have SG28 := hide hb
    clear hb
    have HLW := hide SG28.out
    obtain ⟨-, r0, r1, r2, r3⟩ := (KRL.out.below SG28.out).ats4
    by_cases hlt : k < m1
    rotate_left
    · go_wp2_with fail
      refine (known28_any _ (HWL.out.below SG28.out)).mono ?_
      rintro e w29 ⟨rfl, hb29⟩
      have SG30 := hide (below_trans SG28.out hb29)
      clear hb29
      have HBZ := hide (below_trans HBL.out SG30.out)
      go_wp2
      go_ret
      exact ⟨rfl, HBZ.out⟩
    obtain ⟨b5, off, x, rfl, hBb, HX, Ax, nx, cx, e0, e1, e2, e3⟩ := (HRL.out.below SG28.out).ent hlt
    have k0 : (0 : Int) ≤ (k : Int) := by omega
    have k1 : (k : Int) < (m1 : Int) := by omega
    have hmem := mem_of_drop HX.out
    have hl3 : x.row.length = 3 := row_len ((HTO.out.bag (by simp [shCols])).2.1 x hmem)
    have hpos := (HTO.out.tab (by simp [shCols])).1 x hmem
    have hnx := e2.len
    obtain ⟨bv, ov, v, rfl, hBv, HV, f0, f1, f2, vok⟩ := e2.val (k := 1) (by omega)
    have hv : x.row.getD 1 default = v := by rw [List.getD_eq_getElem?_getD, (drop_get HV.out).1]; rfl
    have HVX := hide hv
    have HPOS := hide hpos
    have HMEM := hide hmem
    have hn1 : (1 : Int) < (nx : Int) := by omega
    have he2 := e2
    have hbb := hBb
    have HBb := hide hbb
    have he0 : Cel wr _ _ := e0
    have he1 : Cel wr _ _ := e1
    obtain ⟨vk, vn, vs⟩ := v
    simp only [Nat.one_mul] at f0 f1 f2
    clear hl3 hv hnx HV e2 e3 vok hmem hpos hbb
    have HROW := hide he2
    clear he2
    have HE0 := hide he0
    clear he0
    have HE1 := hide he1
    clear he1
    go_upto_region 17 with (fail)
    obtain ⟨WV, hWV⟩ : ∃ W, W = wr.alloc (.cells #[.int .i64 vk, .int .i64 vn, .string vs] 74) := ⟨_, rfl⟩
    obtain ⟨hbWV, SZWV, u0, u1, u2⟩ := boxed3 hWV rfl
    rw [← hWV]
    clear hWV
    have SG31 := hide hbWV
    clear hbWV
    have HLV := hide (below_trans SG28.out SG31.out)
    go_wp2
    go_loopg [17, 18] m2 (fun left fd i2 wr2 => ∃ k2 : Nat, k2 + left = m2 ∧ fd = .bool (found (arows.take k2) ⟨vk, vn, vs⟩) ∧ i2 = .int .i64 k2 ∧ Below WV.heap.size WV wr2)
    case atStart => exact ⟨0, by omega, rfl, rfl, Below.refl _ _⟩
    case round =>
      obtain ⟨k2, hk2, rfl, rfl, hb⟩ := hrel
      have o32 := all3 u0 u1 u2
      have SG33 := hide hb
      clear hb
      have HLW2 := hide SG33.out
      have BC34 := hide (below_trans (below_trans SG28.out SG31.out) SG33.out)
      obtain ⟨-, s0, s1, s2, s3⟩ := (KAL.out.below BC34.out).ats4
      by_cases hlt2 : k2 < m2
      · obtain ⟨b6, off6, y, rfl, hBb6, HY, Ay, ny, cy, p0, p1, p2, p3⟩ := (HAL.out.below BC34.out).ent hlt2
        have j0 : (0 : Int) ≤ (k2 : Int) := by omega
        have j1 : (k2 : Int) < (m2 : Int) := by omega
        have hl2 : y.row.length = 2 := row_len ((HTA.out.bag (by simp [reO])).2.1 y (mem_of_drop HY.out))
        have hny := p2.len
        obtain ⟨bw, ow, z, rfl, hBw, HZ, t0, t1, t2, zok⟩ := p2.val (k := 0) (by omega)
        have hz : y.row.getD 0 default = z := by rw [List.getD_eq_getElem?_getD, (drop_get HZ.out).1]; rfl
        have hn2 : (0 : Int) < (ny : Int) := by omega
        have HF : Hid (found (arows.take (k2 + 1)) ⟨vk, vn, vs⟩ = (found (arows.take k2) ⟨vk, vn, vs⟩ || eqV z ⟨vk, vn, vs⟩)) := hide (by rw [take_snoc HY.out, found, List.any_append, ← hz]; simp [found])
        obtain ⟨zk, zn, zs⟩ := z
        simp only [Nat.zero_mul, Nat.add_zero] at t0 t1 t2
        have kq := fun W => eql_val W zk vk zn vn zs vs
        clear hl2 hny hz p1 p2 p3 zok HZ HY
        obtain ⟨f1, hf⟩ : ∃ q, found (arows.take k2) ⟨vk, vn, vs⟩ = q := ⟨_, rfl⟩
        obtain ⟨q1, hq⟩ : ∃ q, eqV ⟨zk, zn, zs⟩ ⟨vk, vn, vs⟩ = q := ⟨_, rfl⟩
        rw [hf, hq] at HF
        rw [hf]
        simp only [hq] at kq
        clear hf hq
        cases f1
        · cases q1
          · obtain ⟨u0, u1, u2⟩ := o32.out _ SG33.out
            go_wp2
            go_quiet (fail)
            go_wp2
            go_roundg (gk - 1)
            case measure => omega
            case rel => exact ⟨k2 + 1, by omega, by rw [HF.out]; rfl, by go_num, below_any HLW2.out⟩
          · obtain ⟨u0, u1, u2⟩ := o32.out _ SG33.out
            go_wp2
            go_quiet (fail)
            go_wp2
            go_roundg (gk - 1)
            case measure => omega
            case rel => exact ⟨k2 + 1, by omega, by rw [HF.out]; rfl, by go_num, below_any HLW2.out⟩
        · obtain ⟨u0, u1, u2⟩ := o32.out _ SG33.out
          go_wp2
          go_quiet (fail)
          go_wp2
          go_roundg (gk - 1)
          case measure => omega
          case rel => exact ⟨k2 + 1, by omega, by rw [HF.out]; rfl, by go_num, below_any HLW2.out⟩
      · have hkk : arows.take k2 = arows := List.take_of_length_le (by rw [HLENA.out]; omega)
        rw [hkk]
        obtain ⟨fd, hfd⟩ : ∃ q, found arows ⟨vk, vn, vs⟩ = q := ⟨_, rfl⟩
        obtain ⟨fs, hfs⟩ : ∃ q, found sum ⟨vk, vn, vs⟩ = q := ⟨_, rfl⟩
        have hN1 := re_count HTO.out (fun r => (r.getD 1 default).kind != 0 && !found arows (r.getD 1 default)) HMEM.out
        have hN2 := re_count HTO.out (fun r => (r.getD 1 default).kind != 0 && !found sum (r.getD 1 default)) HMEM.out
        simp only [HVX.out] at hN1 hN2
        rw [hfd] at hN1
        rw [hfs] at hN2
        have hmf : fd = true → fs = true := fun h => by rw [← hfs]; exact found_more HMORE.out (hfd.trans h)
        obtain ⟨N1, h1⟩ : ∃ q, cntF (reBad rows arows) x.row = q := ⟨_, rfl⟩
        obtain ⟨N2, h2⟩ : ∃ q, cntF (reBad rows sum) x.row = q := ⟨_, rfl⟩
        have HQ1 : Hid (N1 = if (vk != 0 && !fd) = true then x.count else 0) := hide (h1.symm.trans hN1)
        have HQ2 : Hid (N2 = if (vk != 0 && !fs) = true then x.count else 0) := hide (h2.symm.trans hN2)
        have HN1 := hide h1
        have HN2 := hide h2
        have HMF := hide hmf
        rw [hfd]
        clear hfd hfs hN1 hN2 h1 h2 hmf hkk
        have HX1w := hide (HX1L.out.below BC34.out)
        have HX2w := hide (HX2L.out.below BC34.out)
        have BC35 := hide (below_trans SG31.out SG33.out)
        have HRw := hide (HROW.out.below BC35.out)
        have KRw := hide (KRL.out.below BC34.out)
        have HE0w := hide (HE0.out.below BC35.out)
        have HE1w := hide (HE1.out.below BC35.out)
        have HBO := hide (below_trans (below_trans SG28.out SG31.out) SG33.out)
        obtain ⟨u0, u1, u2⟩ := o32.out _ SG33.out
        have HU := all3 u0 u1 u2
        go_upto_region 21 with (fail)
        clear s0 s1 s2 s3
        have e0 : wr.cell? _ = some _ := HE0w.out
        have r3 := KRw.out.at 3 rfl
        have hlb : b5 < wr.heap.size := lt_of_cell e0
        have hlr : w8.heap.size < wr.heap.size := lt_of_cell r3
        have E0 := hide e0
        have R3 := hide r3
        have LB := hide hlb
        have LR := hide hlr
        have mk0 : True := trivial
        go_region_held3 (fun V => V.cell? ⟨w8.heap.size, 3, none⟩ = some (.slice (some ⟨b5, off, none⟩) m1 c1) ∧ V.cell? ⟨b5, off + k * 2, none⟩ = some (.slice (some ⟨bv, ov, none⟩) nx cx))
          (first | exact ⟨bat RB2.out LR.out R3.out, bat RB2.out LB.out E0.out⟩ | exact ⟨bat RB1.out LR.out R3.out, bat RB1.out LB.out E0.out⟩ | exact ⟨R3.out, E0.out⟩)
          (first | (clear mk0; go_at_call 25; refine (count_ref _ _ _ _ (reBad rows arows) (by exact HX1w.out.below (Below.refl _ _).drew) _ _ _ x.row (by exact HRw.out.below (Below.refl _ _).drew)).mono ?_; rintro e z1 ⟨rfl, hc1⟩; rw [HN1.out]; have RB1 := hide (below_undrew hc1); clear hc1; have mk1 : True := trivial) | (clear mk1; go_at_call 25; refine (count_ref _ _ _ _ (reBad rows sum) (by exact HX2w.out.below RB1.out) _ _ _ x.row (by exact HRw.out.below RB1.out)).mono ?_; rintro e z2 ⟨rfl, hc2⟩; rw [HN2.out]; have RB2 := hide (below_trans RB1.out hc2); clear hc2; have mk2 : True := trivial))
        obtain ⟨u0, u1, u2⟩ := HU.out _ RB2.out
        obtain ⟨-, r0, r1, r2, r3⟩ := (KRw.out.below RB2.out).ats4
        have e1 : z2.cell? _ = some _ := HE1w.out.below RB2.out
        have HLZ := hide (below_trans HBO.out RB2.out)
        obtain ⟨hp, _⟩ := HPOS.out
        obtain hc | ⟨hc, hd⟩ | ⟨hc, hd, he⟩ | ⟨hc, hd, he⟩ : vk = 0 ∨ (¬ vk = 0 ∧ fd = true) ∨ (¬ vk = 0 ∧ fd = false ∧ fs = true) ∨ (¬ vk = 0 ∧ fd = false ∧ fs = false) := by
          by_cases h : vk = 0
          · exact .inl h
          · cases fd
            · cases fs
              · exact .inr (.inr (.inr ⟨h, rfl, rfl⟩))
              · exact .inr (.inr (.inl ⟨h, rfl, rfl⟩))
            · exact .inr (.inl ⟨h, rfl⟩)
        · obtain rfl : N1 = 0 := by rw [HQ1.out]; simp [hc]
          obtain rfl : N2 = 0 := by rw [HQ2.out]; simp [hc]
          go_wp2
          all_goals (try (exfalso; go_light; simp_all; done))
          go_roundg (m1 - (k + 1))
          case measure => omega
          case rel => exact ⟨k + 1, by omega, by go_num, HLZ.out⟩
        · obtain rfl : N1 = 0 := by rw [HQ1.out]; simp [hd]
          obtain rfl : N2 = 0 := by rw [HQ2.out, HMF.out hd]; simp
          subst hd
          go_wp2
          all_goals (try (exfalso; go_light; simp_all; done))
          go_roundg (m1 - (k + 1))
          case measure => omega
          case rel => exact ⟨k + 1, by omega, by go_num, HLZ.out⟩
        · have hcb : (vk != 0) = true := by simpa using hc
          have hq0 : ¬ x.count < 0 := by omega
          obtain rfl : N1 = x.count := by rw [HQ1.out]; simp [hc, hd]
          obtain rfl : N2 = 0 := by rw [HQ2.out]; simp [he]
          subst hd
          go_wp2
          all_goals (try (exfalso; go_light; simp_all; done))
          go_roundg (m1 - (k + 1))
          case measure => omega
          case rel => exact ⟨k + 1, by omega, by go_num, HLZ.out⟩
        · have hcb : (vk != 0) = true := by simpa using hc
          have hq0 : ¬ x.count < 0 := by omega
          obtain rfl : N1 = x.count := by rw [HQ1.out]; simp [hc, hd]
          obtain rfl : N2 = x.count := by rw [HQ2.out]; simp [hc, he]
          subst hd
          go_wp2
          all_goals (try (exfalso; go_light; simp_all; done))
          go_roundg (m1 - (k + 1))
          case measure => omega
          case rel => exact ⟨k + 1, by omega, by go_num, HLZ.out⟩
end Go.Proofs.YtggejcekmehocaaGreatDoor
