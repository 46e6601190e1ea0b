/-
  warehouseref28.Judge. (Printed by gen_jdr.py.) warehouselaw28.light, ints. (Printed by gen_l28.py.) warehouselaw28.known: the closed example. (Printed by gen_kn28.py.)
-/
import Derived.Deep.RegionLawGrows
import Derived.Deep.DeepCutAuto
import Derived.Test.YtggejcekmehocaaGreatDoorGaw
import Derived.Test.YtggejcekmehocaaGreatDoorChkA
import Derived.Test.YtggejcekmehocaaGreatDoorCls
import Derived.Test.YtggejcekmehocaaGreatDoorGat
import Derived.Test.YtggejcekmehocaaGreatDoorLogA
import Derived.Test.YtggejcekmehocaaGreatDoorGac
import Derived.Test.YtggejcekmehocaaGreatDoorGan
import Derived.Test.YtggejcekmehocaaGreatDoorEvA
import Derived.Test.YtggejcekmehocaaGreatDoorViol
import Derived.Test.YtggejcekmehocaaGreatDoorGah
import Derived.Test.YtggejcekmehocaaGreatDoorGaj
import Derived.Test.YtggejcekmehocaaGreatDoorGau
import Derived.Test.YtggejcekmehocaaGreatDoorJdg
import Derived.Test.YtggejcekmehocaaGreatDoorGaq
import Derived.Test.YtggejcekmehocaaGreatDoorBlk
namespace Go.Proofs.YtggejcekmehocaaGreatDoor
open Go.RowKit Go.Maps
set_option linter.unusedSimpArgs false
set_option linter.unusedVariables false
def Box (w : World) (g : Nat) (l : List Value) : Prop := ∀ j v, l[j]? = some v → w.cell? ⟨g, j, none⟩ = some v
theorem Box.below {w w1 : World} {g B : Nat} {l : List Value} (h : Box w g l) (hg : g < B) (hb : Below B w w1) : Box w1 g l := fun j v hv => (hb.cell (p := ⟨g, j, none⟩) hg).trans (h j v hv)
theorem VerAt.set2 {w : World} {g : Nat} {v : Ver} (h : VerAt w g v) (p : Int) : VerAt (w.setCell ⟨g, 2, none⟩ (.int .i64 p)) g { v with rows := p } :=
  ⟨set_far h.c0 (.inr (by omega)), set_far h.c1 (.inr (by omega)), set_same h.c2, set_far h.c3 (.inr (by omega)), set_far h.c4 (.inr (by omega)), frozen_set h.fz _ _ _⟩
theorem VerAt.drew {w : World} {g : Nat} {v : Ver} (h : VerAt w g v) : VerAt w.drew g v := h.below (Below.refl _ _).drew
end Go.Proofs.YtggejcekmehocaaGreatDoor

namespace Go.Proofs.YtggejcekmehocaaGreatDoor
open Go.RowKit Go.Maps
set_option linter.unusedSimpArgs false
set_option linter.unusedVariables false
theorem elem_valsL : Elem Tryz.prog 59 74 3 32 := elem_mk _ Tryz.underlying59 val_info rfl (by decide)
theorem RetB.of {e : Ending} {P : Prop} {b : Bool} (hp : P) (h : e = .returned (.bool b)) : RetB e P := ⟨b, h, fun _ => hp⟩
set_option maxHeartbeats 2000000 in
set_option maxRecDepth 100000 in
theorem ints28_any (w : World) (A : Option Addr) (n c : Nat) (l : List Int) (hx : In w A n c l) (hn : n ≤ 1000) :
    Calls Tryz.prog 59 #[.slice A n c] w
      fun e w' => (∃ A' c', e = .returned (.slice A' n c') ∧ In w' A' n c' (l.map fun k => (⟨2, k, ⟨#[]⟩⟩ : Val))) ∧ Below w.heap.size w w' := by
  have HLEN := hide hx.len
  have h63 := hx.le
  go_enter Tryz.func59, Tryz.ntmps59
  have HX := hide hx
  clear hx
  go_wp2
  go_loopg [3, 8] n (fun left v i wr => ∃ k : Nat, k + left = n ∧ i = .int .i64 k ∧ OL (α := Val) 74 w.heap.size (fun _ => False) [] wr v ((l.take k).map fun q => ⟨2, q, ⟨#[]⟩⟩) ∧ Below w.heap.size w wr)
  case atStart => exact ⟨0, by omega, rfl, OL.nil (Nat.le_refl _), Below.refl _ _⟩
  case round =>
    obtain ⟨k, hk, rfl, hol, hb⟩ := hrel
    have HOL := hide hol
    clear hol
    have HX := hide (HX.out.below hb)
    have SG21 := hide hb
    clear hb
    have HLW := hide SG21.out
    by_cases hlt : k < n
    · obtain ⟨b, off, m, rfl, hBb, HX1, e0, e1⟩ := HX.out.int hlt
      have k0 : (0 : Int) ≤ (k : Int) := by omega
      have k1 : (k : Int) < (n : Int) := by omega
      have HN : Hid ((l.take (k + 1)).map (fun q => (⟨2, q, ⟨#[]⟩⟩ : Val)) = (l.take k).map (fun q => (⟨2, q, ⟨#[]⟩⟩ : Val)) ++ [⟨2, m, ⟨#[]⟩⟩]) := hide (by rw [take_snoc HX1.out, List.map_append]; rfl)
      have hk63 : ((l.take k).map fun q => (⟨2, q, ⟨#[]⟩⟩ : Val)).length + 1 ≤ maxLen := by rw [List.length_map, List.length_take]; simp only [maxLen]; omega
      have hk64 : (((l.take k).map fun q => (⟨2, q, ⟨#[]⟩⟩ : Val)).length + 1) * 32 ≤ 140737488355328 := by rw [List.length_map, List.length_take]; omega
      have HKL : Hid (((l.take k).map fun q => (⟨2, q, ⟨#[]⟩⟩ : Val)).length = k) := hide (by rw [List.length_map, List.length_take, HLEN.out]; omega)
      obtain ⟨Ao, co, rfl⟩ := HOL.out.form
      rw [HKL.out] at HOL ⊢
      obtain ⟨ms, hms⟩ : ∃ s, (l.take k).map (fun q => (⟨2, q, ⟨#[]⟩⟩ : Val)) = s := ⟨_, rfl⟩
      rw [hms] at hk63 hk64 HN HOL
      clear hms
      have hvo : Val.ok ⟨2, m, ⟨#[]⟩⟩ := ⟨⟨by show (-9223372036854775808 : Int) ≤ 2; decide, by show (2 : Int) ≤ 9223372036854775807; decide⟩, e1, by show (⟨#[]⟩ : ByteArray).size ≤ 9223372036854775807; decide⟩
      go_wp2_with (at_builtin; refine wpList_push_OL _ rfl _ _ _ rfl elem_valsL (by simp) wr _ rfl HOL.out rfl rfl ⟨2, m, ⟨#[]⟩⟩ ⟨rfl, hvo⟩ hk63 hk64 ?_; intro v9 w9 ho9 hb9 hg9 hat9; have HO9 := hide ho9; have HB9 := hide hb9; clear ho9 hb9 hg9 hat9)
      go_roundg (gk - 1)
      case measure => omega
      case rel => exact ⟨k + 1, by omega, by go_num, by rw [HN.out]; exact HO9.out, HLW.out.trans HB9.out⟩
    · have HT : Hid (l.take k = l) := hide (List.take_of_length_le (by rw [HLEN.out]; omega))
      rw [HT.out] at HOL
      obtain ⟨A', c', hv, hin⟩ := HOL.out.inn
      rw [List.length_map, HLEN.out] at hv hin
      subst hv
      have HIN := hide hin
      have HBW := hide SG21.out
      clear hin
      go_wp2
      go_ret
      exact ⟨⟨_, _, rfl, HIN.out⟩, HBW.out⟩
end Go.Proofs.YtggejcekmehocaaGreatDoor

namespace Go.Proofs.YtggejcekmehocaaGreatDoor
open Go.RowKit Go.Maps
set_option linter.unusedSimpArgs false
set_option linter.unusedVariables false
attribute [local go_sem ↓] Go.wp_at_zero Go.wp_at_succ
theorem ints2_in (W : World) (a b : Int) (ha : I64 a) (hb : I64 b) : In (W.alloc (.cells #[.int .i64 a, .int .i64 b] 3)) (some ⟨W.heap.size, 0, none⟩) 2 2 [a, b] :=
  in_built (heap_alloc_new W _) ⟨[_], [_], rfl, ⟨rfl, ha⟩, Cells.one ⟨rfl, hb⟩⟩ rfl (by decide)
theorem cols28_in (W : World) : In (W.alloc (.cells #[.string ⟨#[97]⟩, .int .i64 2, .bool false, .string ⟨#[98]⟩, .int .i64 2, .bool false] 82)) (some ⟨W.heap.size, 0, none⟩) 2 2 k28Cols := by
  have h1 : ∀ V : World, Rep.rd V (fun k => k < V.heap.size) [.string ⟨#[97]⟩, .int .i64 2, .bool false] (⟨⟨#[97]⟩, 2, false⟩ : Col) := fun V =>
    ⟨rfl, ⟨by show (⟨#[97]⟩ : ByteArray).size ≤ 9223372036854775807; decide, by show (-9223372036854775808 : Int) ≤ 2; decide, by show (2 : Int) ≤ 9223372036854775807; decide⟩⟩
  have h2 : ∀ V : World, Rep.rd V (fun k => k < V.heap.size) [.string ⟨#[98]⟩, .int .i64 2, .bool false] (⟨⟨#[98]⟩, 2, false⟩ : Col) := fun V =>
    ⟨rfl, ⟨by show (⟨#[98]⟩ : ByteArray).size ≤ 9223372036854775807; decide, by show (-9223372036854775808 : Int) ≤ 2; decide, by show (2 : Int) ≤ 9223372036854775807; decide⟩⟩
  exact in_built (heap_alloc_new W _) ⟨[_, _, _], [_, _, _], rfl, h1 _, Cells.one (h2 _)⟩ rfl (by decide)
theorem ents28_in (V : World) (g : Nat) (A1 A2 A3 : Option Addr) (d1 d2 d3 : Nat) (hb : Blk V g 61 [.slice A1 2 d1, .int .i64 1, .slice A2 2 d2, .int .i64 1, .slice A3 2 d3, .int .i64 1]) (h1 : In V A1 2 d1 [iV 1, iV 2]) (h2 : In V A2 2 d2 [iV 1, iV 3]) (h3 : In V A3 2 d3 [iV 2, iV 5]) :
    In V (some ⟨g, 0, none⟩) 3 3 k28Rows :=
  in_built hb ⟨[_, _], [_, _, _, _], rfl, ⟨_, _, _, rfl, h1, ⟨by decide, by decide⟩⟩, ⟨[_, _], [_, _], rfl, ⟨_, _, _, rfl, h2, ⟨by decide, by decide⟩⟩, Cells.one ⟨_, _, _, rfl, h3, ⟨by decide, by decide⟩⟩⟩⟩ rfl (by decide)
theorem name_in (V : World) (g : Nat) (s : ByteArray) (hs : Str s) (hb : Blk V g 9 [.string s]) : In V (some ⟨g, 0, none⟩) 1 1 [s] :=
  in_built hb (Cells.one ⟨rfl, hs⟩) rfl (by decide)
theorem ints2b_in (V : World) (g : Nat) (a b : Int) (ha : I64 a) (hb : I64 b) (hB : Blk V g 3 [.int .i64 a, .int .i64 b]) : In V (some ⟨g, 0, none⟩) 2 2 [a, b] :=
  in_built hB ⟨[_], [_], rfl, ⟨rfl, ha⟩, Cells.one ⟨rfl, hb⟩⟩ rfl (by decide)
theorem str_a : Str ⟨#[97]⟩ := by show (⟨#[97]⟩ : ByteArray).size ≤ 9223372036854775807; decide
theorem str_b : Str ⟨#[98]⟩ := by show (⟨#[98]⟩ : ByteArray).size ≤ 9223372036854775807; decide
theorem i64_sm28 {n : Int} (h0 : 0 ≤ n) (h1 : n ≤ 1000) : I64 n := ⟨by omega, by omega⟩
set_option maxHeartbeats 4000000 in
set_option maxRecDepth 100000 in
theorem known28_any (w : World) (hw : Words w) :
    Calls Tryz.prog 28 #[] w fun e w' => e = .returned (.bool true) ∧ Below w.heap.size w w' := by
  have HVC := hide fun W A1 c1 (hc : In W A1 2 c1 k28Cols) A3 c3 (hr : In W A3 3 c3 k28Rows) A c (hn : In W A 1 c [kA]) (hw : Words W) => violations_p W k28C A 1 c hn none 0 0 In.nil_ none 0 0 In.nil_ hw kNo A1 2 c1 k28Cols hc none 0 0 A3 3 c3 k28Rows hr kNo none 0 0 [] In.nil_ none 0 0 none 0 0 [] In.nil_ none 0 0 [] In.nil_ (by omega) (by omega) (by omega) (by omega) (.inl rfl)
  have HVE := hide fun W A1 c1 (hc : In W A1 2 c1 k28Cols) A3 c3 (hr : In W A3 3 c3 k28Rows) A c (hn : In W A 1 c [kA]) (hw : Words W) Ar cr (hrow : In W Ar 2 cr [iV 1, iV 2]) => explain_uniq W k28C A 1 c hn none 0 0 In.nil_ none 0 0 In.nil_ hw kNo A1 2 c1 k28Cols hc none 0 0 A3 3 c3 k28Rows hr kNo none 0 0 [] In.nil_ none 0 0 none 0 0 [] In.nil_ none 0 0 [] In.nil_ (by omega) (by omega) (by omega) (by omega) Ar 2 cr [iV 1, iV 2] hrow k28_all (by rw [k28_viol, cntF, if_pos (cr_zero.2 rfl)]; decide) rfl
  have HVJ := hide fun W A1 c1 (hc : In W A1 2 c1 k28Cols) A3 c3 (hr : In W A3 3 c3 k28Rows) A c (hn : In W A 1 c [kA]) A' c' (hn' : In W A' 1 c' [kB]) (hw : Words W) => judge_total W k28T A 1 c hn A' 1 c' hn' none 0 0 In.nil_ hw kNo A1 2 c1 k28Cols hc none 0 0 A3 3 c3 k28Rows hr kNo A1 2 c1 k28Cols hc none 0 0 A3 3 c3 k28Rows hr none 0 0 [] In.nil_ (by omega) (by omega) (by omega) (by omega) k28_allT rfl rfl
  simp only [chkCells, k28_viol, k28_exp, k28_judge] at HVC HVE HVJ
  simp only [k28C, k28T, kNo, Ver.cells] at HVC HVE HVJ
  go_enter Tryz.func28, Tryz.ntmps28
  have HW := hide hw
  clear hw
  go_wp2_with fail
  obtain ⟨W2, hW2⟩ : ∃ W, W = (w.alloc (.cells #[.string ⟨#[97]⟩, .int .i64 2, .bool false, .string ⟨#[98]⟩, .int .i64 2, .bool false] 82)).alloc (.cells #[.int .i64 1, .int .i64 2] 3) := ⟨_, rfl⟩
  have hb2 : Below w.heap.size w W2 := by rw [hW2]; exact below_alloc2
  have hc2 : In W2 (some ⟨w.heap.size, 0, none⟩) 2 2 k28Cols := by rw [hW2]; exact (cols28_in w).below below_alloc
  have hi2 : In W2 (some ⟨w.heap.size + 1, 0, none⟩) 2 2 ([1, 2] : List Int) := by
    rw [hW2]
    have h := ints2_in (w.alloc (.cells #[.string ⟨#[97]⟩, .int .i64 2, .bool false, .string ⟨#[98]⟩, .int .i64 2, .bool false] 82)) 1 2 (i64_sm28 (by omega) (by omega)) (i64_sm28 (by omega) (by omega))
    rwa [World.size_alloc] at h
  rw [← hW2]
  clear hW2
  have HW := hide (HW.out.below hb2)
  have SG1 := hide hb2
  clear hb2
  have HC := hide hc2
  clear hc2
  go_wp2_with fail
  refine (ints28_any _ _ 2 2 ([1, 2] : List Int) hi2 (by omega)).mono ?_
  rintro e w2 ⟨⟨A1, d1, rfl, h1⟩, hb2⟩
  have HW := hide (HW.out.below hb2)
  have HC := hide (HC.out.below hb2)
  have SG3 := hide (below_trans SG1.out hb2)
  clear hb2
  clear hi2
  have H1 := hide h1
  clear h1
  go_wp2_with fail
  obtain ⟨V2, hV2⟩ : ∃ W, W = w2.alloc (.cells #[.int .i64 1, .int .i64 3] 3) := ⟨_, rfl⟩
  have hbv2 : Below w2.heap.size w2 V2 := by rw [hV2]; exact below_alloc
  have hiv2 : In V2 (some ⟨w2.heap.size, 0, none⟩) 2 2 ([1, 3] : List Int) := by rw [hV2]; exact ints2_in _ _ _ (i64_sm28 (by omega) (by omega)) (i64_sm28 (by omega) (by omega))
  rw [← hV2]
  clear hV2
  have HW := hide (HW.out.below hbv2)
  have HC := hide (HC.out.below hbv2)
  have H1 := hide (H1.out.below hbv2)
  have SG4 := hide (below_trans SG3.out hbv2)
  clear hbv2
  refine (ints28_any _ _ 2 2 ([1, 3] : List Int) hiv2 (by omega)).mono ?_
  rintro e w5 ⟨⟨A2, d2, rfl, h2⟩, hb5⟩
  have HW := hide (HW.out.below hb5)
  have HC := hide (HC.out.below hb5)
  have H1 := hide (H1.out.below hb5)
  have SG6 := hide (below_trans SG4.out hb5)
  clear hb5
  clear hiv2
  have H2 := hide h2
  clear h2
  go_wp2_with fail
  obtain ⟨V3, hV3⟩ : ∃ W, W = w5.alloc (.cells #[.int .i64 2, .int .i64 5] 3) := ⟨_, rfl⟩
  have hbv3 : Below w5.heap.size w5 V3 := by rw [hV3]; exact below_alloc
  have hiv3 : In V3 (some ⟨w5.heap.size, 0, none⟩) 2 2 ([2, 5] : List Int) := by rw [hV3]; exact ints2_in _ _ _ (i64_sm28 (by omega) (by omega)) (i64_sm28 (by omega) (by omega))
  rw [← hV3]
  clear hV3
  have HW := hide (HW.out.below hbv3)
  have HC := hide (HC.out.below hbv3)
  have H1 := hide (H1.out.below hbv3)
  have H2 := hide (H2.out.below hbv3)
  have SG7 := hide (below_trans SG6.out hbv3)
  clear hbv3
  refine (ints28_any _ _ 2 2 ([2, 5] : List Int) hiv3 (by omega)).mono ?_
  rintro e w8 ⟨⟨A3, d3, rfl, h3⟩, hb8⟩
  have HW := hide (HW.out.below hb8)
  have HC := hide (HC.out.below hb8)
  have H1 := hide (H1.out.below hb8)
  have H2 := hide (H2.out.below hb8)
  have SG9 := hide (below_trans SG7.out hb8)
  clear hb8
  clear hiv3
  have H3 := hide h3
  clear h3
  have HB3 := hide SG9.out
  go_wp2_with fail
  obtain ⟨W910, hW910⟩ : ∃ W, W = w8.alloc (.cells #[.slice A1 2 d1, .int .i64 1, .slice A2 2 d2, .int .i64 1, .slice A3 2 d3, .int .i64 1] 61) := ⟨_, rfl⟩
  obtain ⟨g4, hg4⟩ : ∃ q, q = w8.heap.size := ⟨_, rfl⟩
  have KE : Hid (Blk W910 g4 61 [.slice A1 2 d1, .int .i64 1, .slice A2 2 d2, .int .i64 1, .slice A3 2 d3, .int .i64 1]) := hide (by rw [hW910, hg4]; exact Blk.made _ _ _)
  have SZg4 : Hid (W910.heap.size = g4 + 1) := hide (by rw [hW910, hg4]; exact World.size_alloc _ _)
  have LBg4 : Hid (Below w8.heap.size w8 W910) := hide (by rw [hW910]; exact below_alloc)
  have HGg4 : Hid (w.heap.size ≤ g4) := hide (by rw [hg4]; exact HB3.out.size)
  rw [← hW910, ← hg4]
  have HEg4 := hide hg4
  clear hW910 hg4
  have LHBg4 := hide (below_trans HB3.out LBg4.out)
  obtain ⟨W911, hW911⟩ : ∃ W, W = W910.alloc (.cells #[.string ⟨#[]⟩, .slice (some ⟨w.heap.size, 0, none⟩) 2 2, .slice none 0 0, .slice (some ⟨g4, 0, none⟩) 3 3] 32) := ⟨_, rfl⟩
  obtain ⟨g5, hg5⟩ : ∃ q, q = W910.heap.size := ⟨_, rfl⟩
  have KR : Hid (Blk W911 g5 32 [.string ⟨#[]⟩, .slice (some ⟨w.heap.size, 0, none⟩) 2 2, .slice none 0 0, .slice (some ⟨g4, 0, none⟩) 3 3]) := hide (by rw [hW911, hg5]; exact Blk.made _ _ _)
  have SZg5 : Hid (W911.heap.size = g5 + 1) := hide (by rw [hW911, hg5]; exact World.size_alloc _ _)
  have LBg5 : Hid (Below W910.heap.size W910 W911) := hide (by rw [hW911]; exact below_alloc)
  have HGg5 : Hid (w.heap.size ≤ g5) := hide (by rw [hg5]; exact LHBg4.out.size)
  have NEg4_g5 : Hid (¬ g4 = g5) := hide (by have h := KE.out.lt; omega)
  have hqg5 : g5 = g4 + 1 := by rw [hg5]; exact SZg4.out
  rw [← hW911, ← hqg5]
  clear hqg5
  have HEg5 := hide hg5
  clear hW911 hg5
  have KE := hide (KE.out.below LBg5.out)
  have LHBg5 := hide (below_trans LHBg4.out LBg5.out)
  obtain ⟨W912, hW912⟩ : ∃ W, W = W911.alloc (.cells #[.string ⟨#[97]⟩] 9) := ⟨_, rfl⟩
  obtain ⟨g6, hg6⟩ : ∃ q, q = W911.heap.size := ⟨_, rfl⟩
  have KN : Hid (Blk W912 g6 9 [.string ⟨#[97]⟩]) := hide (by rw [hW912, hg6]; exact Blk.made _ _ _)
  have SZg6 : Hid (W912.heap.size = g6 + 1) := hide (by rw [hW912, hg6]; exact World.size_alloc _ _)
  have LBg6 : Hid (Below W911.heap.size W911 W912) := hide (by rw [hW912]; exact below_alloc)
  have HGg6 : Hid (w.heap.size ≤ g6) := hide (by rw [hg6]; exact LHBg5.out.size)
  have NEg4_g6 : Hid (¬ g4 = g6) := hide (by have h := KE.out.lt; omega)
  have NEg5_g6 : Hid (¬ g5 = g6) := hide (by have h := KR.out.lt; omega)
  have hqg6 : g6 = g5 + 1 := by rw [hg6]; exact SZg5.out
  rw [← hW912, ← hqg6]
  clear hqg6
  have HEg6 := hide hg6
  clear hW912 hg6
  have KE := hide (KE.out.below LBg6.out)
  have KR := hide (KR.out.below LBg6.out)
  have LHBg6 := hide (below_trans LHBg5.out LBg6.out)
  obtain ⟨W913, hW913⟩ : ∃ W, W = W912.alloc (.cells #[.string ⟨#[99]⟩, .string ⟨#[]⟩, .int .i64 0, .slice (some ⟨g6, 0, none⟩) 1 1, .string ⟨#[]⟩, .slice none 0 0, .int .i64 0, .int .i64 0, .slice none 0 0, .int .i64 0, .int .i64 0, .int .i64 0, .int .i64 0, .int .i64 1] 27) := ⟨_, rfl⟩
  obtain ⟨g7, hg7⟩ : ∃ q, q = W912.heap.size := ⟨_, rfl⟩
  have KC : Hid (Blk W913 g7 27 [.string ⟨#[99]⟩, .string ⟨#[]⟩, .int .i64 0, .slice (some ⟨g6, 0, none⟩) 1 1, .string ⟨#[]⟩, .slice none 0 0, .int .i64 0, .int .i64 0, .slice none 0 0, .int .i64 0, .int .i64 0, .int .i64 0, .int .i64 0, .int .i64 1]) := hide (by rw [hW913, hg7]; exact Blk.made _ _ _)
  have SZg7 : Hid (W913.heap.size = g7 + 1) := hide (by rw [hW913, hg7]; exact World.size_alloc _ _)
  have LBg7 : Hid (Below W912.heap.size W912 W913) := hide (by rw [hW913]; exact below_alloc)
  have HGg7 : Hid (w.heap.size ≤ g7) := hide (by rw [hg7]; exact LHBg6.out.size)
  have NEg4_g7 : Hid (¬ g4 = g7) := hide (by have h := KE.out.lt; omega)
  have NEg5_g7 : Hid (¬ g5 = g7) := hide (by have h := KR.out.lt; omega)
  have NEg6_g7 : Hid (¬ g6 = g7) := hide (by have h := KN.out.lt; omega)
  have hqg7 : g7 = g6 + 1 := by rw [hg7]; exact SZg6.out
  rw [← hW913, ← hqg7]
  clear hqg7
  have HEg7 := hide hg7
  clear hW913 hg7
  have KE := hide (KE.out.below LBg7.out)
  have KR := hide (KR.out.below LBg7.out)
  have KN := hide (KN.out.below LBg7.out)
  have LHBg7 := hide (below_trans LHBg6.out LBg7.out)
  have hb34 := below_trans (below_trans (below_trans LBg4.out LBg5.out) LBg6.out) LBg7.out
  have HE := hide (ents28_in _ g4 A1 A2 A3 d1 d2 d3 KE.out (H1.out.below hb34) (H2.out.below hb34) (H3.out.below hb34))
  have HN := hide (name_in _ g6 ⟨#[97]⟩ str_a KN.out)
  have HC4 := hide (HC.out.below hb34)
  have HW4 := hide (HW.out.below hb34)
  clear hb34
  obtain ⟨W4, rfl⟩ : ∃ W, W = W913 := ⟨_, rfl⟩
  have HB4 := hide LHBg7.out
  obtain ⟨LTKC, g0, g1, g2, g3, g4, g5, g6, g7, g8, g9, g10, g11, g12, g13⟩ := KC.out.ats14
  obtain ⟨LTKR, r0, r1, r2, r3⟩ := KR.out.ats4
  go_wp2_with fail
  refine (HVC.out _ _ _ (HC4.out.below (Below.refl _ _)) _ _ (HE.out.below (Below.refl _ _)) _ _ (HN.out.below (Below.refl _ _)) (HW4.out.below (Below.refl _ _))).mono ?_
  rintro e w14 ⟨⟨v1, rfl, ho1⟩, hb14⟩
  clear LTKC g0 g1 g2 g3 g4 g5 g6 g7 g8 g9 g10 g11 g12 g13 LTKR r0 r1 r2 r3
  have KR := hide (KR.out.below hb14)
  have KC := hide (KC.out.below hb14)
  have LHC14 := hide hb14
  clear hb14
  obtain ⟨Av, cv, rfl⟩ := ho1.form
  clear ho1
  obtain ⟨W5, rfl⟩ : ∃ W, W = w14 := ⟨_, rfl⟩
  go_upto_region 4 with (fail)
  have HW5 := hide (HW4.out.below LHC14.out)
  have HC5 := hide (HC4.out.below LHC14.out)
  have HE5 := hide (HE.out.below LHC14.out)
  have HN5 := hide (HN.out.below LHC14.out)
  go_cut [5, 6] (fun p e wx => ∃ (gx : Nat) (A7 : Option Addr) (c7 : Nat) (A8 : Option Addr) (c8 : Nat), p = .pointer (some ⟨gx, 0, none⟩) ∧ e = .int .i64 0 ∧ Blk wx gx 105 [.string ⟨#[99]⟩, .slice A7 1 c7, .slice A8 1 c8] ∧ In wx A7 1 c7 [iV 1] ∧ Below W5.heap.size W5 wx)
  case first =>
    have q0 : Hid True := hide trivial
    refine wp_region_held_drew (S := fun V => V.cell? ⟨g7, 0, none⟩ = some (.string ⟨#[99]⟩) ∧ V.cell? ⟨g7, 1, none⟩ = some (.string ⟨#[]⟩) ∧ V.cell? ⟨g7, 2, none⟩ = some (.int .i64 0) ∧ V.cell? ⟨g7, 3, none⟩ = some (.slice (some ⟨g6, 0, none⟩) 1 1) ∧ V.cell? ⟨g7, 4, none⟩ = some (.string ⟨#[]⟩) ∧ V.cell? ⟨g7, 5, none⟩ = some (.slice none 0 0) ∧ V.cell? ⟨g7, 6, none⟩ = some (.int .i64 0) ∧ V.cell? ⟨g7, 7, none⟩ = some (.int .i64 0) ∧ V.cell? ⟨g7, 8, none⟩ = some (.slice none 0 0) ∧ V.cell? ⟨g7, 9, none⟩ = some (.int .i64 0) ∧ V.cell? ⟨g7, 10, none⟩ = some (.int .i64 0) ∧ V.cell? ⟨g7, 11, none⟩ = some (.int .i64 0) ∧ V.cell? ⟨g7, 12, none⟩ = some (.int .i64 0) ∧ V.cell? ⟨g7, 13, none⟩ = some (.int .i64 1) ∧ V.cell? ⟨g5, 0, none⟩ = some (.string ⟨#[]⟩) ∧ V.cell? ⟨g5, 1, none⟩ = some (.slice (some ⟨w.heap.size, 0, none⟩) 2 2) ∧ V.cell? ⟨g5, 2, none⟩ = some (.slice none 0 0) ∧ V.cell? ⟨g5, 3, none⟩ = some (.slice (some ⟨g4, 0, none⟩) 3 3)) (by kernel_rfl) (by exact ⟨(KC.out.below ((Below.refl _ _).drew)).at 0 rfl, (KC.out.below ((Below.refl _ _).drew)).at 1 rfl, (KC.out.below ((Below.refl _ _).drew)).at 2 rfl, (KC.out.below ((Below.refl _ _).drew)).at 3 rfl, (KC.out.below ((Below.refl _ _).drew)).at 4 rfl, (KC.out.below ((Below.refl _ _).drew)).at 5 rfl, (KC.out.below ((Below.refl _ _).drew)).at 6 rfl, (KC.out.below ((Below.refl _ _).drew)).at 7 rfl, (KC.out.below ((Below.refl _ _).drew)).at 8 rfl, (KC.out.below ((Below.refl _ _).drew)).at 9 rfl, (KC.out.below ((Below.refl _ _).drew)).at 10 rfl, (KC.out.below ((Below.refl _ _).drew)).at 11 rfl, (KC.out.below ((Below.refl _ _).drew)).at 12 rfl, (KC.out.below ((Below.refl _ _).drew)).at 13 rfl, (KR.out.below ((Below.refl _ _).drew)).at 0 rfl, (KR.out.below ((Below.refl _ _).drew)).at 1 rfl, (KR.out.below ((Below.refl _ _).drew)).at 2 rfl, (KR.out.below ((Below.refl _ _).drew)).at 3 rfl⟩) (fun hHeld => ?_)
    obtain ⟨WD, hWD⟩ : ∃ q, q = W5.drew := ⟨_, rfl⟩
    have HBWD : Hid (Below W5.heap.size W5 WD) := hide (by rw [hWD]; exact (Below.refl _ _).drew)
    rw [← hWD] at hHeld
    rw [← hWD]
    clear hWD
    refine wpAnyH_take (i := 0) (v := ?_) rfl (by kernel_rfl) (by kernel_rfl) (by kernel_rfl) (fun _ _ _ h => h) (Or.inl ⟨by rfl, ?_⟩) hHeld ?_
    rotate_left
    · intro w hSw
      try dsimp only at hSw
      go_simp
      try with_reducible rfl
    (try simp only [Act.put, List.getElem_toArray, List.getElem_cons_succ, List.getElem_cons_zero, List.setIfInBounds_toArray, List.set_cons_zero, List.set_cons_succ])
    refine wpAnyH_take (i := 1) (v := ?_) rfl (by kernel_rfl) (by kernel_rfl) (by kernel_rfl) (fun _ _ _ h => h) (Or.inl ⟨by rfl, ?_⟩) hHeld ?_
    rotate_left
    · intro w hSw
      try dsimp only at hSw
      go_simp
      try with_reducible rfl
    (try simp only [Act.put, List.getElem_toArray, List.getElem_cons_succ, List.getElem_cons_zero, List.setIfInBounds_toArray, List.set_cons_zero, List.set_cons_succ])
    refine wpAnyH_take (i := 2) (v := ?_) rfl (by kernel_rfl) (by kernel_rfl) (by kernel_rfl) (fun _ _ _ h => h) (Or.inl ⟨by rfl, ?_⟩) hHeld ?_
    rotate_left
    · intro w hSw
      try dsimp only at hSw
      go_simp
      try with_reducible rfl
    (try simp only [Act.put, List.getElem_toArray, List.getElem_cons_succ, List.getElem_cons_zero, List.setIfInBounds_toArray, List.set_cons_zero, List.set_cons_succ])
    refine wpAnyH_ready (rs := [3, 9]) (by kernel_rfl) (by simp) ?_
    refine AllReadyH.cons rfl (fun K hK => ?_) (AllReadyH.cons rfl (fun K hK => ?_) AllReadyH.nil)
    · go_simp
      refine hK.out _ _ ?_ (fun hHeld2 => ?_)
      · exact ⟨(KC.out.below (below_trans HBWD.out below_alloc)).at 0 rfl, (KC.out.below (below_trans HBWD.out below_alloc)).at 1 rfl, (KC.out.below (below_trans HBWD.out below_alloc)).at 2 rfl, (KC.out.below (below_trans HBWD.out below_alloc)).at 3 rfl, (KC.out.below (below_trans HBWD.out below_alloc)).at 4 rfl, (KC.out.below (below_trans HBWD.out below_alloc)).at 5 rfl, (KC.out.below (below_trans HBWD.out below_alloc)).at 6 rfl, (KC.out.below (below_trans HBWD.out below_alloc)).at 7 rfl, (KC.out.below (below_trans HBWD.out below_alloc)).at 8 rfl, (KC.out.below (below_trans HBWD.out below_alloc)).at 9 rfl, (KC.out.below (below_trans HBWD.out below_alloc)).at 10 rfl, (KC.out.below (below_trans HBWD.out below_alloc)).at 11 rfl, (KC.out.below (below_trans HBWD.out below_alloc)).at 12 rfl, (KC.out.below (below_trans HBWD.out below_alloc)).at 13 rfl, (KR.out.below (below_trans HBWD.out below_alloc)).at 0 rfl, (KR.out.below (below_trans HBWD.out below_alloc)).at 1 rfl, (KR.out.below (below_trans HBWD.out below_alloc)).at 2 rfl, (KR.out.below (below_trans HBWD.out below_alloc)).at 3 rfl⟩
      clear hK K hHeld
      have hHeld := hHeld2
      clear hHeld2
      (try simp only [Act.put, List.getElem_toArray, List.getElem_cons_succ, List.getElem_cons_zero, List.setIfInBounds_toArray, List.set_cons_zero, List.set_cons_succ])
      obtain ⟨WI, hWI⟩ : ∃ q, q = WD.alloc (.cells #[.int .i64 1, .int .i64 2] 3) := ⟨_, rfl⟩
      obtain ⟨gi, hgi⟩ : ∃ q, q = WD.heap.size := ⟨_, rfl⟩
      have KI : Hid (Blk WI gi 3 [.int .i64 1, .int .i64 2]) := hide (by rw [hWI, hgi]; exact Blk.made _ _ _)
      have HBWI : Hid (Below W5.heap.size W5 WI) := hide (by rw [hWI]; exact below_trans HBWD.out below_alloc)
      have LBWI : Hid (Below WD.heap.size WD WI) := hide (by rw [hWI]; exact below_alloc)
      have HGgi : Hid (W5.heap.size ≤ gi) := hide (by rw [hgi]; exact HBWD.out.size)
      rw [← hWI] at hHeld
      rw [← hWI, ← hgi]
      clear hWI hgi
      have HII : Hid (In WI (some ⟨gi, 0, none⟩) 2 2 ([1, 2] : List Int)) := hide (ints2b_in _ _ 1 2 (i64_sm28 (by omega) (by omega)) (i64_sm28 (by omega) (by omega)) KI.out)
      refine wpAnyH_ready (rs := [4, 9]) (by kernel_rfl) (by simp) ?_
      refine AllReadyH.cons rfl (fun K hK => ?_) (AllReadyH.cons rfl (fun K hK => ?_) AllReadyH.nil)
      · go_simp
        go_at_call 59
        refine (ints28_any _ _ 2 2 ([1, 2] : List Int) (by exact HII.out) (by omega)).mono ?_
        rintro e wi6 ⟨⟨A6, d6, rfl, h6⟩, hb6⟩
        have HBwi6 := hide (below_trans HBWI.out hb6)
        have LBwi6 := hide hb6
        have HI6 := hide h6
        clear h6 hb6
        go_wp2_with fail
        refine hK.out _ _ ?_ (fun hHeld2 => ?_)
        · exact ⟨(KC.out.below (HBwi6.out)).at 0 rfl, (KC.out.below (HBwi6.out)).at 1 rfl, (KC.out.below (HBwi6.out)).at 2 rfl, (KC.out.below (HBwi6.out)).at 3 rfl, (KC.out.below (HBwi6.out)).at 4 rfl, (KC.out.below (HBwi6.out)).at 5 rfl, (KC.out.below (HBwi6.out)).at 6 rfl, (KC.out.below (HBwi6.out)).at 7 rfl, (KC.out.below (HBwi6.out)).at 8 rfl, (KC.out.below (HBwi6.out)).at 9 rfl, (KC.out.below (HBwi6.out)).at 10 rfl, (KC.out.below (HBwi6.out)).at 11 rfl, (KC.out.below (HBwi6.out)).at 12 rfl, (KC.out.below (HBwi6.out)).at 13 rfl, (KR.out.below (HBwi6.out)).at 0 rfl, (KR.out.below (HBwi6.out)).at 1 rfl, (KR.out.below (HBwi6.out)).at 2 rfl, (KR.out.below (HBwi6.out)).at 3 rfl⟩
        clear hK K hHeld
        have hHeld := hHeld2
        clear hHeld2
        (try simp only [Act.put, List.getElem_toArray, List.getElem_cons_succ, List.getElem_cons_zero, List.setIfInBounds_toArray, List.set_cons_zero, List.set_cons_succ])
        refine wpAnyH_ready (rs := [5, 9]) (by kernel_rfl) (by simp) ?_
        refine AllReadyH.cons rfl (fun K hK => ?_) (AllReadyH.cons rfl (fun K hK => ?_) AllReadyH.nil)
        · go_simp
          go_at_call 60
          refine (HVE.out _ _ _ (by exact HC5.out.below (HBwi6.out)) _ _ (by exact HE5.out.below (HBwi6.out)) _ _ (by exact HN5.out.below (HBwi6.out)) (by exact HW5.out.below (HBwi6.out)) _ _ (by exact HI6.out)).mono ?_
          rintro e w7 ⟨⟨v7, v8, rfl, ho7, ho8⟩, hb7⟩
          obtain ⟨A7, c7, rfl⟩ := ho7.form
          obtain ⟨A8, c8, rfl⟩ := ho8.form
          have HO7 := hide ho7
          have HBw7 := hide (below_trans HBwi6.out hb7)
          have LBw7 := hide hb7
          clear ho7 ho8 hb7
          go_wp2_with fail
          refine hK.out _ _ ?_ (fun hHeld2 => ?_)
          · exact ⟨(KC.out.below (HBw7.out)).at 0 rfl, (KC.out.below (HBw7.out)).at 1 rfl, (KC.out.below (HBw7.out)).at 2 rfl, (KC.out.below (HBw7.out)).at 3 rfl, (KC.out.below (HBw7.out)).at 4 rfl, (KC.out.below (HBw7.out)).at 5 rfl, (KC.out.below (HBw7.out)).at 6 rfl, (KC.out.below (HBw7.out)).at 7 rfl, (KC.out.below (HBw7.out)).at 8 rfl, (KC.out.below (HBw7.out)).at 9 rfl, (KC.out.below (HBw7.out)).at 10 rfl, (KC.out.below (HBw7.out)).at 11 rfl, (KC.out.below (HBw7.out)).at 12 rfl, (KC.out.below (HBw7.out)).at 13 rfl, (KR.out.below (HBw7.out)).at 0 rfl, (KR.out.below (HBw7.out)).at 1 rfl, (KR.out.below (HBw7.out)).at 2 rfl, (KR.out.below (HBw7.out)).at 3 rfl⟩
          clear hK K hHeld
          have hHeld := hHeld2
          clear hHeld2
          (try simp only [Act.put, List.getElem_toArray, List.getElem_cons_succ, List.getElem_cons_zero, List.setIfInBounds_toArray, List.set_cons_zero, List.set_cons_succ])
          refine wpAnyH_take (i := 6) (v := ?_) rfl (by kernel_rfl) (by kernel_rfl) (by kernel_rfl) (fun _ _ _ h => h) (Or.inl ⟨by rfl, ?_⟩) hHeld ?_
          rotate_left
          · intro w hSw
            try dsimp only at hSw
            go_simp
            try with_reducible rfl
          (try simp only [Act.put, List.getElem_toArray, List.getElem_cons_succ, List.getElem_cons_zero, List.setIfInBounds_toArray, List.set_cons_zero, List.set_cons_succ])
          refine wpAnyH_take (i := 7) (v := ?_) rfl (by kernel_rfl) (by kernel_rfl) (by kernel_rfl) (fun _ _ _ h => h) (Or.inl ⟨by rfl, ?_⟩) hHeld ?_
          rotate_left
          · intro w hSw
            try dsimp only at hSw
            go_simp
            try with_reducible rfl
          (try simp only [Act.put, List.getElem_toArray, List.getElem_cons_succ, List.getElem_cons_zero, List.setIfInBounds_toArray, List.set_cons_zero, List.set_cons_succ])
          refine wpAnyH_take (i := 8) (v := ?_) rfl (by kernel_rfl) (by kernel_rfl) (by kernel_rfl) (fun _ _ _ h => h) (Or.inl ⟨by rfl, ?_⟩) hHeld ?_
          rotate_left
          · intro w hSw
            try dsimp only at hSw
            go_simp
            try with_reducible rfl
          (try simp only [Act.put, List.getElem_toArray, List.getElem_cons_succ, List.getElem_cons_zero, List.setIfInBounds_toArray, List.set_cons_zero, List.set_cons_succ])
          refine wpAnyH_ready (rs := [9]) (by kernel_rfl) (by simp) ?_
          refine AllReadyH.cons rfl (fun K hK => ?_) AllReadyH.nil
          go_simp
          refine hK.out _ _ ?_ (fun hHeld2 => ?_)
          · exact ⟨(KC.out.below (below_trans HBw7.out below_alloc)).at 0 rfl, (KC.out.below (below_trans HBw7.out below_alloc)).at 1 rfl, (KC.out.below (below_trans HBw7.out below_alloc)).at 2 rfl, (KC.out.below (below_trans HBw7.out below_alloc)).at 3 rfl, (KC.out.below (below_trans HBw7.out below_alloc)).at 4 rfl, (KC.out.below (below_trans HBw7.out below_alloc)).at 5 rfl, (KC.out.below (below_trans HBw7.out below_alloc)).at 6 rfl, (KC.out.below (below_trans HBw7.out below_alloc)).at 7 rfl, (KC.out.below (below_trans HBw7.out below_alloc)).at 8 rfl, (KC.out.below (below_trans HBw7.out below_alloc)).at 9 rfl, (KC.out.below (below_trans HBw7.out below_alloc)).at 10 rfl, (KC.out.below (below_trans HBw7.out below_alloc)).at 11 rfl, (KC.out.below (below_trans HBw7.out below_alloc)).at 12 rfl, (KC.out.below (below_trans HBw7.out below_alloc)).at 13 rfl, (KR.out.below (below_trans HBw7.out below_alloc)).at 0 rfl, (KR.out.below (below_trans HBw7.out below_alloc)).at 1 rfl, (KR.out.below (below_trans HBw7.out below_alloc)).at 2 rfl, (KR.out.below (below_trans HBw7.out below_alloc)).at 3 rfl⟩
          clear hK K hHeld
          have hHeld := hHeld2
          clear hHeld2
          (try simp only [Act.put, List.getElem_toArray, List.getElem_cons_succ, List.getElem_cons_zero, List.setIfInBounds_toArray, List.set_cons_zero, List.set_cons_succ])
          obtain ⟨WX, hWX⟩ : ∃ q, q = w7.alloc (.cells #[.string ⟨#[]⟩, .slice none 0 0, .slice none 0 0] 105) := ⟨_, rfl⟩
          obtain ⟨gx, hgx⟩ : ∃ q, q = w7.heap.size := ⟨_, rfl⟩
          have KX : Hid (Blk WX gx 105 [.string ⟨#[]⟩, .slice none 0 0, .slice none 0 0]) := hide (by rw [hWX, hgx]; exact Blk.made _ _ _)
          have HBWX : Hid (Below W5.heap.size W5 WX) := hide (by rw [hWX]; exact below_trans HBw7.out below_alloc)
          have LBWX : Hid (Below w7.heap.size w7 WX) := hide (by rw [hWX]; exact below_alloc)
          have HGgx : Hid (W5.heap.size ≤ gx) := hide (by rw [hgx]; exact HBw7.out.size)
          rw [← hWX] at hHeld
          rw [← hWX, ← hgx]
          clear hWX hgx
          have HO7 := hide (HO7.out.below LBWX.out)
          have x0 := KX.out.at 0 rfl
          have x1 := KX.out.at 1 rfl
          have x2 := KX.out.at 2 rfl
          have y0 := KX.out.fz 0
          have y1 := KX.out.fz 1
          have y2 := KX.out.fz 2
          have n5 : ¬ g5 = gx := fun e => by have h1 := KR.out.lt; have h2 := HGgx.out; omega
          have n7 : ¬ g7 = gx := fun e => by have h1 := KC.out.lt; have h2 := HGgx.out; omega
          refine wpAnyH_ready (rs := [10]) (by kernel_rfl) (by simp) ?_
          refine AllReadyH.cons rfl (fun K hK => ?_) AllReadyH.nil
          go_simp
          refine hK.out _ _ ?_ (fun hHeld2 => ?_)
          · exact ⟨set_far (set_far (set_far ((KC.out.below HBWX.out).at 0 rfl) (.inl n7)) (.inl n7)) (.inl n7), set_far (set_far (set_far ((KC.out.below HBWX.out).at 1 rfl) (.inl n7)) (.inl n7)) (.inl n7), set_far (set_far (set_far ((KC.out.below HBWX.out).at 2 rfl) (.inl n7)) (.inl n7)) (.inl n7), set_far (set_far (set_far ((KC.out.below HBWX.out).at 3 rfl) (.inl n7)) (.inl n7)) (.inl n7), set_far (set_far (set_far ((KC.out.below HBWX.out).at 4 rfl) (.inl n7)) (.inl n7)) (.inl n7), set_far (set_far (set_far ((KC.out.below HBWX.out).at 5 rfl) (.inl n7)) (.inl n7)) (.inl n7), set_far (set_far (set_far ((KC.out.below HBWX.out).at 6 rfl) (.inl n7)) (.inl n7)) (.inl n7), set_far (set_far (set_far ((KC.out.below HBWX.out).at 7 rfl) (.inl n7)) (.inl n7)) (.inl n7), set_far (set_far (set_far ((KC.out.below HBWX.out).at 8 rfl) (.inl n7)) (.inl n7)) (.inl n7), set_far (set_far (set_far ((KC.out.below HBWX.out).at 9 rfl) (.inl n7)) (.inl n7)) (.inl n7), set_far (set_far (set_far ((KC.out.below HBWX.out).at 10 rfl) (.inl n7)) (.inl n7)) (.inl n7), set_far (set_far (set_far ((KC.out.below HBWX.out).at 11 rfl) (.inl n7)) (.inl n7)) (.inl n7), set_far (set_far (set_far ((KC.out.below HBWX.out).at 12 rfl) (.inl n7)) (.inl n7)) (.inl n7), set_far (set_far (set_far ((KC.out.below HBWX.out).at 13 rfl) (.inl n7)) (.inl n7)) (.inl n7), set_far (set_far (set_far ((KR.out.below HBWX.out).at 0 rfl) (.inl n5)) (.inl n5)) (.inl n5), set_far (set_far (set_far ((KR.out.below HBWX.out).at 1 rfl) (.inl n5)) (.inl n5)) (.inl n5), set_far (set_far (set_far ((KR.out.below HBWX.out).at 2 rfl) (.inl n5)) (.inl n5)) (.inl n5), set_far (set_far (set_far ((KR.out.below HBWX.out).at 3 rfl) (.inl n5)) (.inl n5)) (.inl n5)⟩
          clear hK K hHeld
          have hHeld := hHeld2
          clear hHeld2
          (try simp only [Act.put, List.getElem_toArray, List.getElem_cons_succ, List.getElem_cons_zero, List.setIfInBounds_toArray, List.set_cons_zero, List.set_cons_succ])
          refine wpAnyH_take (i := 11) (v := ?_) rfl (by kernel_rfl) (by kernel_rfl) (by kernel_rfl) (fun _ _ _ h => h) (Or.inl ⟨by rfl, ?_⟩) hHeld ?_
          rotate_left
          · intro w hSw
            try dsimp only at hSw
            go_simp
            try with_reducible rfl
          (try simp only [Act.put, List.getElem_toArray, List.getElem_cons_succ, List.getElem_cons_zero, List.setIfInBounds_toArray, List.set_cons_zero, List.set_cons_succ])
          refine wpAnyH_done (by kernel_rfl) ?_ _
          have HX7 := hide ((((HO7.out.off KX.out.ty (.inr fun _ h => h) (by decide) (by decide) 0 (.string ⟨#[99]⟩)).off (KX.out.ty.set _ _ _) (.inr fun _ h => h) (by decide) (by decide) 1 (.slice A7 1 c7)).off ((KX.out.ty.set _ _ _).set _ _ _) (.inr fun _ h => h) (by decide) (by decide) 2 (.slice A8 1 c8)))
          go_wp2_with fail
          go_meet
          case rel => exact ⟨gx, A7, c7, A8, c8, rfl, rfl, KX.out.set3 rfl, ol_in HX7.out rfl, below_set (below_set (below_set HBWX.out HGgx.out _ _) HGgx.out _ _) HGgx.out _ _⟩
        · go_simp
          refine hK.out _ _ ?_ (fun hHeld2 => ?_)
          · exact ⟨(KC.out.below (below_trans HBwi6.out below_alloc)).at 0 rfl, (KC.out.below (below_trans HBwi6.out below_alloc)).at 1 rfl, (KC.out.below (below_trans HBwi6.out below_alloc)).at 2 rfl, (KC.out.below (below_trans HBwi6.out below_alloc)).at 3 rfl, (KC.out.below (below_trans HBwi6.out below_alloc)).at 4 rfl, (KC.out.below (below_trans HBwi6.out below_alloc)).at 5 rfl, (KC.out.below (below_trans HBwi6.out below_alloc)).at 6 rfl, (KC.out.below (below_trans HBwi6.out below_alloc)).at 7 rfl, (KC.out.below (below_trans HBwi6.out below_alloc)).at 8 rfl, (KC.out.below (below_trans HBwi6.out below_alloc)).at 9 rfl, (KC.out.below (below_trans HBwi6.out below_alloc)).at 10 rfl, (KC.out.below (below_trans HBwi6.out below_alloc)).at 11 rfl, (KC.out.below (below_trans HBwi6.out below_alloc)).at 12 rfl, (KC.out.below (below_trans HBwi6.out below_alloc)).at 13 rfl, (KR.out.below (below_trans HBwi6.out below_alloc)).at 0 rfl, (KR.out.below (below_trans HBwi6.out below_alloc)).at 1 rfl, (KR.out.below (below_trans HBwi6.out below_alloc)).at 2 rfl, (KR.out.below (below_trans HBwi6.out below_alloc)).at 3 rfl⟩
          clear hK K hHeld
          have hHeld := hHeld2
          clear hHeld2
          (try simp only [Act.put, List.getElem_toArray, List.getElem_cons_succ, List.getElem_cons_zero, List.setIfInBounds_toArray, List.set_cons_zero, List.set_cons_succ])
          obtain ⟨WX, hWX⟩ : ∃ q, q = wi6.alloc (.cells #[.string ⟨#[]⟩, .slice none 0 0, .slice none 0 0] 105) := ⟨_, rfl⟩
          obtain ⟨gx, hgx⟩ : ∃ q, q = wi6.heap.size := ⟨_, rfl⟩
          have KX : Hid (Blk WX gx 105 [.string ⟨#[]⟩, .slice none 0 0, .slice none 0 0]) := hide (by rw [hWX, hgx]; exact Blk.made _ _ _)
          have HBWX : Hid (Below W5.heap.size W5 WX) := hide (by rw [hWX]; exact below_trans HBwi6.out below_alloc)
          have LBWX : Hid (Below wi6.heap.size wi6 WX) := hide (by rw [hWX]; exact below_alloc)
          have HGgx : Hid (W5.heap.size ≤ gx) := hide (by rw [hgx]; exact HBwi6.out.size)
          rw [← hWX] at hHeld
          rw [← hWX, ← hgx]
          clear hWX hgx
          have HI6 := hide (HI6.out.below LBWX.out)
          refine wpAnyH_ready (rs := [5]) (by kernel_rfl) (by simp) ?_
          refine AllReadyH.cons rfl (fun K hK => ?_) AllReadyH.nil
          go_simp
          go_at_call 60
          refine (HVE.out _ _ _ (by exact HC5.out.below (HBWX.out)) _ _ (by exact HE5.out.below (HBWX.out)) _ _ (by exact HN5.out.below (HBWX.out)) (by exact HW5.out.below (HBWX.out)) _ _ (by exact HI6.out)).mono ?_
          rintro e w7 ⟨⟨v7, v8, rfl, ho7, ho8⟩, hb7⟩
          obtain ⟨A7, c7, rfl⟩ := ho7.form
          obtain ⟨A8, c8, rfl⟩ := ho8.form
          have HO7 := hide ho7
          have HBw7 := hide (below_trans HBWX.out hb7)
          have LBw7 := hide hb7
          clear ho7 ho8 hb7
          go_wp2_with fail
          refine hK.out _ _ ?_ (fun hHeld2 => ?_)
          · exact ⟨(KC.out.below (HBw7.out)).at 0 rfl, (KC.out.below (HBw7.out)).at 1 rfl, (KC.out.below (HBw7.out)).at 2 rfl, (KC.out.below (HBw7.out)).at 3 rfl, (KC.out.below (HBw7.out)).at 4 rfl, (KC.out.below (HBw7.out)).at 5 rfl, (KC.out.below (HBw7.out)).at 6 rfl, (KC.out.below (HBw7.out)).at 7 rfl, (KC.out.below (HBw7.out)).at 8 rfl, (KC.out.below (HBw7.out)).at 9 rfl, (KC.out.below (HBw7.out)).at 10 rfl, (KC.out.below (HBw7.out)).at 11 rfl, (KC.out.below (HBw7.out)).at 12 rfl, (KC.out.below (HBw7.out)).at 13 rfl, (KR.out.below (HBw7.out)).at 0 rfl, (KR.out.below (HBw7.out)).at 1 rfl, (KR.out.below (HBw7.out)).at 2 rfl, (KR.out.below (HBw7.out)).at 3 rfl⟩
          clear hK K hHeld
          have hHeld := hHeld2
          clear hHeld2
          (try simp only [Act.put, List.getElem_toArray, List.getElem_cons_succ, List.getElem_cons_zero, List.setIfInBounds_toArray, List.set_cons_zero, List.set_cons_succ])
          have KX := hide (KX.out.below LBw7.out)
          refine wpAnyH_take (i := 6) (v := ?_) rfl (by kernel_rfl) (by kernel_rfl) (by kernel_rfl) (fun _ _ _ h => h) (Or.inl ⟨by rfl, ?_⟩) hHeld ?_
          rotate_left
          · intro w hSw
            try dsimp only at hSw
            go_simp
            try with_reducible rfl
          (try simp only [Act.put, List.getElem_toArray, List.getElem_cons_succ, List.getElem_cons_zero, List.setIfInBounds_toArray, List.set_cons_zero, List.set_cons_succ])
          refine wpAnyH_take (i := 7) (v := ?_) rfl (by kernel_rfl) (by kernel_rfl) (by kernel_rfl) (fun _ _ _ h => h) (Or.inl ⟨by rfl, ?_⟩) hHeld ?_
          rotate_left
          · intro w hSw
            try dsimp only at hSw
            go_simp
            try with_reducible rfl
          (try simp only [Act.put, List.getElem_toArray, List.getElem_cons_succ, List.getElem_cons_zero, List.setIfInBounds_toArray, List.set_cons_zero, List.set_cons_succ])
          refine wpAnyH_take (i := 8) (v := ?_) rfl (by kernel_rfl) (by kernel_rfl) (by kernel_rfl) (fun _ _ _ h => h) (Or.inl ⟨by rfl, ?_⟩) hHeld ?_
          rotate_left
          · intro w hSw
            try dsimp only at hSw
            go_simp
            try with_reducible rfl
          (try simp only [Act.put, List.getElem_toArray, List.getElem_cons_succ, List.getElem_cons_zero, List.setIfInBounds_toArray, List.set_cons_zero, List.set_cons_succ])
          have x0 := KX.out.at 0 rfl
          have x1 := KX.out.at 1 rfl
          have x2 := KX.out.at 2 rfl
          have y0 := KX.out.fz 0
          have y1 := KX.out.fz 1
          have y2 := KX.out.fz 2
          have n5 : ¬ g5 = gx := fun e => by have h1 := KR.out.lt; have h2 := HGgx.out; omega
          have n7 : ¬ g7 = gx := fun e => by have h1 := KC.out.lt; have h2 := HGgx.out; omega
          refine wpAnyH_ready (rs := [10]) (by kernel_rfl) (by simp) ?_
          refine AllReadyH.cons rfl (fun K hK => ?_) AllReadyH.nil
          go_simp
          refine hK.out _ _ ?_ (fun hHeld2 => ?_)
          · exact ⟨set_far (set_far (set_far ((KC.out.below HBw7.out).at 0 rfl) (.inl n7)) (.inl n7)) (.inl n7), set_far (set_far (set_far ((KC.out.below HBw7.out).at 1 rfl) (.inl n7)) (.inl n7)) (.inl n7), set_far (set_far (set_far ((KC.out.below HBw7.out).at 2 rfl) (.inl n7)) (.inl n7)) (.inl n7), set_far (set_far (set_far ((KC.out.below HBw7.out).at 3 rfl) (.inl n7)) (.inl n7)) (.inl n7), set_far (set_far (set_far ((KC.out.below HBw7.out).at 4 rfl) (.inl n7)) (.inl n7)) (.inl n7), set_far (set_far (set_far ((KC.out.below HBw7.out).at 5 rfl) (.inl n7)) (.inl n7)) (.inl n7), set_far (set_far (set_far ((KC.out.below HBw7.out).at 6 rfl) (.inl n7)) (.inl n7)) (.inl n7), set_far (set_far (set_far ((KC.out.below HBw7.out).at 7 rfl) (.inl n7)) (.inl n7)) (.inl n7), set_far (set_far (set_far ((KC.out.below HBw7.out).at 8 rfl) (.inl n7)) (.inl n7)) (.inl n7), set_far (set_far (set_far ((KC.out.below HBw7.out).at 9 rfl) (.inl n7)) (.inl n7)) (.inl n7), set_far (set_far (set_far ((KC.out.below HBw7.out).at 10 rfl) (.inl n7)) (.inl n7)) (.inl n7), set_far (set_far (set_far ((KC.out.below HBw7.out).at 11 rfl) (.inl n7)) (.inl n7)) (.inl n7), set_far (set_far (set_far ((KC.out.below HBw7.out).at 12 rfl) (.inl n7)) (.inl n7)) (.inl n7), set_far (set_far (set_far ((KC.out.below HBw7.out).at 13 rfl) (.inl n7)) (.inl n7)) (.inl n7), set_far (set_far (set_far ((KR.out.below HBw7.out).at 0 rfl) (.inl n5)) (.inl n5)) (.inl n5), set_far (set_far (set_far ((KR.out.below HBw7.out).at 1 rfl) (.inl n5)) (.inl n5)) (.inl n5), set_far (set_far (set_far ((KR.out.below HBw7.out).at 2 rfl) (.inl n5)) (.inl n5)) (.inl n5), set_far (set_far (set_far ((KR.out.below HBw7.out).at 3 rfl) (.inl n5)) (.inl n5)) (.inl n5)⟩
          clear hK K hHeld
          have hHeld := hHeld2
          clear hHeld2
          (try simp only [Act.put, List.getElem_toArray, List.getElem_cons_succ, List.getElem_cons_zero, List.setIfInBounds_toArray, List.set_cons_zero, List.set_cons_succ])
          refine wpAnyH_take (i := 11) (v := ?_) rfl (by kernel_rfl) (by kernel_rfl) (by kernel_rfl) (fun _ _ _ h => h) (Or.inl ⟨by rfl, ?_⟩) hHeld ?_
          rotate_left
          · intro w hSw
            try dsimp only at hSw
            go_simp
            try with_reducible rfl
          (try simp only [Act.put, List.getElem_toArray, List.getElem_cons_succ, List.getElem_cons_zero, List.setIfInBounds_toArray, List.set_cons_zero, List.set_cons_succ])
          refine wpAnyH_done (by kernel_rfl) ?_ _
          have HX7 := hide ((((HO7.out.off KX.out.ty (.inr fun _ h => h) (by decide) (by decide) 0 (.string ⟨#[99]⟩)).off (KX.out.ty.set _ _ _) (.inr fun _ h => h) (by decide) (by decide) 1 (.slice A7 1 c7)).off ((KX.out.ty.set _ _ _).set _ _ _) (.inr fun _ h => h) (by decide) (by decide) 2 (.slice A8 1 c8)))
          go_wp2_with fail
          go_meet
          case rel => exact ⟨gx, A7, c7, A8, c8, rfl, rfl, KX.out.set3 rfl, ol_in HX7.out rfl, below_set (below_set (below_set HBw7.out HGgx.out _ _) HGgx.out _ _) HGgx.out _ _⟩
      · go_simp
        refine hK.out _ _ ?_ (fun hHeld2 => ?_)
        · exact ⟨(KC.out.below (below_trans HBWI.out below_alloc)).at 0 rfl, (KC.out.below (below_trans HBWI.out below_alloc)).at 1 rfl, (KC.out.below (below_trans HBWI.out below_alloc)).at 2 rfl, (KC.out.below (below_trans HBWI.out below_alloc)).at 3 rfl, (KC.out.below (below_trans HBWI.out below_alloc)).at 4 rfl, (KC.out.below (below_trans HBWI.out below_alloc)).at 5 rfl, (KC.out.below (below_trans HBWI.out below_alloc)).at 6 rfl, (KC.out.below (below_trans HBWI.out below_alloc)).at 7 rfl, (KC.out.below (below_trans HBWI.out below_alloc)).at 8 rfl, (KC.out.below (below_trans HBWI.out below_alloc)).at 9 rfl, (KC.out.below (below_trans HBWI.out below_alloc)).at 10 rfl, (KC.out.below (below_trans HBWI.out below_alloc)).at 11 rfl, (KC.out.below (below_trans HBWI.out below_alloc)).at 12 rfl, (KC.out.below (below_trans HBWI.out below_alloc)).at 13 rfl, (KR.out.below (below_trans HBWI.out below_alloc)).at 0 rfl, (KR.out.below (below_trans HBWI.out below_alloc)).at 1 rfl, (KR.out.below (below_trans HBWI.out below_alloc)).at 2 rfl, (KR.out.below (below_trans HBWI.out below_alloc)).at 3 rfl⟩
        clear hK K hHeld
        have hHeld := hHeld2
        clear hHeld2
        (try simp only [Act.put, List.getElem_toArray, List.getElem_cons_succ, List.getElem_cons_zero, List.setIfInBounds_toArray, List.set_cons_zero, List.set_cons_succ])
        obtain ⟨WX, hWX⟩ : ∃ q, q = WI.alloc (.cells #[.string ⟨#[]⟩, .slice none 0 0, .slice none 0 0] 105) := ⟨_, rfl⟩
        obtain ⟨gx, hgx⟩ : ∃ q, q = WI.heap.size := ⟨_, rfl⟩
        have KX : Hid (Blk WX gx 105 [.string ⟨#[]⟩, .slice none 0 0, .slice none 0 0]) := hide (by rw [hWX, hgx]; exact Blk.made _ _ _)
        have HBWX : Hid (Below W5.heap.size W5 WX) := hide (by rw [hWX]; exact below_trans HBWI.out below_alloc)
        have LBWX : Hid (Below WI.heap.size WI WX) := hide (by rw [hWX]; exact below_alloc)
        have HGgx : Hid (W5.heap.size ≤ gx) := hide (by rw [hgx]; exact HBWI.out.size)
        rw [← hWX] at hHeld
        rw [← hWX, ← hgx]
        clear hWX hgx
        have HII := hide (HII.out.below LBWX.out)
        refine wpAnyH_ready (rs := [4]) (by kernel_rfl) (by simp) ?_
        refine AllReadyH.cons rfl (fun K hK => ?_) AllReadyH.nil
        go_simp
        go_at_call 59
        refine (ints28_any _ _ 2 2 ([1, 2] : List Int) (by exact HII.out) (by omega)).mono ?_
        rintro e wi6 ⟨⟨A6, d6, rfl, h6⟩, hb6⟩
        have HBwi6 := hide (below_trans HBWX.out hb6)
        have LBwi6 := hide hb6
        have HI6 := hide h6
        clear h6 hb6
        go_wp2_with fail
        refine hK.out _ _ ?_ (fun hHeld2 => ?_)
        · exact ⟨(KC.out.below (HBwi6.out)).at 0 rfl, (KC.out.below (HBwi6.out)).at 1 rfl, (KC.out.below (HBwi6.out)).at 2 rfl, (KC.out.below (HBwi6.out)).at 3 rfl, (KC.out.below (HBwi6.out)).at 4 rfl, (KC.out.below (HBwi6.out)).at 5 rfl, (KC.out.below (HBwi6.out)).at 6 rfl, (KC.out.below (HBwi6.out)).at 7 rfl, (KC.out.below (HBwi6.out)).at 8 rfl, (KC.out.below (HBwi6.out)).at 9 rfl, (KC.out.below (HBwi6.out)).at 10 rfl, (KC.out.below (HBwi6.out)).at 11 rfl, (KC.out.below (HBwi6.out)).at 12 rfl, (KC.out.below (HBwi6.out)).at 13 rfl, (KR.out.below (HBwi6.out)).at 0 rfl, (KR.out.below (HBwi6.out)).at 1 rfl, (KR.out.below (HBwi6.out)).at 2 rfl, (KR.out.below (HBwi6.out)).at 3 rfl⟩
        clear hK K hHeld
        have hHeld := hHeld2
        clear hHeld2
        (try simp only [Act.put, List.getElem_toArray, List.getElem_cons_succ, List.getElem_cons_zero, List.setIfInBounds_toArray, List.set_cons_zero, List.set_cons_succ])
        have KX := hide (KX.out.below LBwi6.out)
        refine wpAnyH_ready (rs := [5]) (by kernel_rfl) (by simp) ?_
        refine AllReadyH.cons rfl (fun K hK => ?_) AllReadyH.nil
        go_simp
        go_at_call 60
        refine (HVE.out _ _ _ (by exact HC5.out.below (HBwi6.out)) _ _ (by exact HE5.out.below (HBwi6.out)) _ _ (by exact HN5.out.below (HBwi6.out)) (by exact HW5.out.below (HBwi6.out)) _ _ (by exact HI6.out)).mono ?_
        rintro e w7 ⟨⟨v7, v8, rfl, ho7, ho8⟩, hb7⟩
        obtain ⟨A7, c7, rfl⟩ := ho7.form
        obtain ⟨A8, c8, rfl⟩ := ho8.form
        have HO7 := hide ho7
        have HBw7 := hide (below_trans HBwi6.out hb7)
        have LBw7 := hide hb7
        clear ho7 ho8 hb7
        go_wp2_with fail
        refine hK.out _ _ ?_ (fun hHeld2 => ?_)
        · exact ⟨(KC.out.below (HBw7.out)).at 0 rfl, (KC.out.below (HBw7.out)).at 1 rfl, (KC.out.below (HBw7.out)).at 2 rfl, (KC.out.below (HBw7.out)).at 3 rfl, (KC.out.below (HBw7.out)).at 4 rfl, (KC.out.below (HBw7.out)).at 5 rfl, (KC.out.below (HBw7.out)).at 6 rfl, (KC.out.below (HBw7.out)).at 7 rfl, (KC.out.below (HBw7.out)).at 8 rfl, (KC.out.below (HBw7.out)).at 9 rfl, (KC.out.below (HBw7.out)).at 10 rfl, (KC.out.below (HBw7.out)).at 11 rfl, (KC.out.below (HBw7.out)).at 12 rfl, (KC.out.below (HBw7.out)).at 13 rfl, (KR.out.below (HBw7.out)).at 0 rfl, (KR.out.below (HBw7.out)).at 1 rfl, (KR.out.below (HBw7.out)).at 2 rfl, (KR.out.below (HBw7.out)).at 3 rfl⟩
        clear hK K hHeld
        have hHeld := hHeld2
        clear hHeld2
        (try simp only [Act.put, List.getElem_toArray, List.getElem_cons_succ, List.getElem_cons_zero, List.setIfInBounds_toArray, List.set_cons_zero, List.set_cons_succ])
        have KX := hide (KX.out.below LBw7.out)
        refine wpAnyH_take (i := 6) (v := ?_) rfl (by kernel_rfl) (by kernel_rfl) (by kernel_rfl) (fun _ _ _ h => h) (Or.inl ⟨by rfl, ?_⟩) hHeld ?_
        rotate_left
        · intro w hSw
          try dsimp only at hSw
          go_simp
          try with_reducible rfl
        (try simp only [Act.put, List.getElem_toArray, List.getElem_cons_succ, List.getElem_cons_zero, List.setIfInBounds_toArray, List.set_cons_zero, List.set_cons_succ])
        refine wpAnyH_take (i := 7) (v := ?_) rfl (by kernel_rfl) (by kernel_rfl) (by kernel_rfl) (fun _ _ _ h => h) (Or.inl ⟨by rfl, ?_⟩) hHeld ?_
        rotate_left
        · intro w hSw
          try dsimp only at hSw
          go_simp
          try with_reducible rfl
        (try simp only [Act.put, List.getElem_toArray, List.getElem_cons_succ, List.getElem_cons_zero, List.setIfInBounds_toArray, List.set_cons_zero, List.set_cons_succ])
        refine wpAnyH_take (i := 8) (v := ?_) rfl (by kernel_rfl) (by kernel_rfl) (by kernel_rfl) (fun _ _ _ h => h) (Or.inl ⟨by rfl, ?_⟩) hHeld ?_
        rotate_left
        · intro w hSw
          try dsimp only at hSw
          go_simp
          try with_reducible rfl
        (try simp only [Act.put, List.getElem_toArray, List.getElem_cons_succ, List.getElem_cons_zero, List.setIfInBounds_toArray, List.set_cons_zero, List.set_cons_succ])
        have x0 := KX.out.at 0 rfl
        have x1 := KX.out.at 1 rfl
        have x2 := KX.out.at 2 rfl
        have y0 := KX.out.fz 0
        have y1 := KX.out.fz 1
        have y2 := KX.out.fz 2
        have n5 : ¬ g5 = gx := fun e => by have h1 := KR.out.lt; have h2 := HGgx.out; omega
        have n7 : ¬ g7 = gx := fun e => by have h1 := KC.out.lt; have h2 := HGgx.out; omega
        refine wpAnyH_ready (rs := [10]) (by kernel_rfl) (by simp) ?_
        refine AllReadyH.cons rfl (fun K hK => ?_) AllReadyH.nil
        go_simp
        refine hK.out _ _ ?_ (fun hHeld2 => ?_)
        · exact ⟨set_far (set_far (set_far ((KC.out.below HBw7.out).at 0 rfl) (.inl n7)) (.inl n7)) (.inl n7), set_far (set_far (set_far ((KC.out.below HBw7.out).at 1 rfl) (.inl n7)) (.inl n7)) (.inl n7), set_far (set_far (set_far ((KC.out.below HBw7.out).at 2 rfl) (.inl n7)) (.inl n7)) (.inl n7), set_far (set_far (set_far ((KC.out.below HBw7.out).at 3 rfl) (.inl n7)) (.inl n7)) (.inl n7), set_far (set_far (set_far ((KC.out.below HBw7.out).at 4 rfl) (.inl n7)) (.inl n7)) (.inl n7), set_far (set_far (set_far ((KC.out.below HBw7.out).at 5 rfl) (.inl n7)) (.inl n7)) (.inl n7), set_far (set_far (set_far ((KC.out.below HBw7.out).at 6 rfl) (.inl n7)) (.inl n7)) (.inl n7), set_far (set_far (set_far ((KC.out.below HBw7.out).at 7 rfl) (.inl n7)) (.inl n7)) (.inl n7), set_far (set_far (set_far ((KC.out.below HBw7.out).at 8 rfl) (.inl n7)) (.inl n7)) (.inl n7), set_far (set_far (set_far ((KC.out.below HBw7.out).at 9 rfl) (.inl n7)) (.inl n7)) (.inl n7), set_far (set_far (set_far ((KC.out.below HBw7.out).at 10 rfl) (.inl n7)) (.inl n7)) (.inl n7), set_far (set_far (set_far ((KC.out.below HBw7.out).at 11 rfl) (.inl n7)) (.inl n7)) (.inl n7), set_far (set_far (set_far ((KC.out.below HBw7.out).at 12 rfl) (.inl n7)) (.inl n7)) (.inl n7), set_far (set_far (set_far ((KC.out.below HBw7.out).at 13 rfl) (.inl n7)) (.inl n7)) (.inl n7), set_far (set_far (set_far ((KR.out.below HBw7.out).at 0 rfl) (.inl n5)) (.inl n5)) (.inl n5), set_far (set_far (set_far ((KR.out.below HBw7.out).at 1 rfl) (.inl n5)) (.inl n5)) (.inl n5), set_far (set_far (set_far ((KR.out.below HBw7.out).at 2 rfl) (.inl n5)) (.inl n5)) (.inl n5), set_far (set_far (set_far ((KR.out.below HBw7.out).at 3 rfl) (.inl n5)) (.inl n5)) (.inl n5)⟩
        clear hK K hHeld
        have hHeld := hHeld2
        clear hHeld2
        (try simp only [Act.put, List.getElem_toArray, List.getElem_cons_succ, List.getElem_cons_zero, List.setIfInBounds_toArray, List.set_cons_zero, List.set_cons_succ])
        refine wpAnyH_take (i := 11) (v := ?_) rfl (by kernel_rfl) (by kernel_rfl) (by kernel_rfl) (fun _ _ _ h => h) (Or.inl ⟨by rfl, ?_⟩) hHeld ?_
        rotate_left
        · intro w hSw
          try dsimp only at hSw
          go_simp
          try with_reducible rfl
        (try simp only [Act.put, List.getElem_toArray, List.getElem_cons_succ, List.getElem_cons_zero, List.setIfInBounds_toArray, List.set_cons_zero, List.set_cons_succ])
        refine wpAnyH_done (by kernel_rfl) ?_ _
        have HX7 := hide ((((HO7.out.off KX.out.ty (.inr fun _ h => h) (by decide) (by decide) 0 (.string ⟨#[99]⟩)).off (KX.out.ty.set _ _ _) (.inr fun _ h => h) (by decide) (by decide) 1 (.slice A7 1 c7)).off ((KX.out.ty.set _ _ _).set _ _ _) (.inr fun _ h => h) (by decide) (by decide) 2 (.slice A8 1 c8)))
        go_wp2_with fail
        go_meet
        case rel => exact ⟨gx, A7, c7, A8, c8, rfl, rfl, KX.out.set3 rfl, ol_in HX7.out rfl, below_set (below_set (below_set HBw7.out HGgx.out _ _) HGgx.out _ _) HGgx.out _ _⟩
    · go_simp
      refine hK.out _ _ ?_ (fun hHeld2 => ?_)
      · exact ⟨(KC.out.below (below_trans HBWD.out below_alloc)).at 0 rfl, (KC.out.below (below_trans HBWD.out below_alloc)).at 1 rfl, (KC.out.below (below_trans HBWD.out below_alloc)).at 2 rfl, (KC.out.below (below_trans HBWD.out below_alloc)).at 3 rfl, (KC.out.below (below_trans HBWD.out below_alloc)).at 4 rfl, (KC.out.below (below_trans HBWD.out below_alloc)).at 5 rfl, (KC.out.below (below_trans HBWD.out below_alloc)).at 6 rfl, (KC.out.below (below_trans HBWD.out below_alloc)).at 7 rfl, (KC.out.below (below_trans HBWD.out below_alloc)).at 8 rfl, (KC.out.below (below_trans HBWD.out below_alloc)).at 9 rfl, (KC.out.below (below_trans HBWD.out below_alloc)).at 10 rfl, (KC.out.below (below_trans HBWD.out below_alloc)).at 11 rfl, (KC.out.below (below_trans HBWD.out below_alloc)).at 12 rfl, (KC.out.below (below_trans HBWD.out below_alloc)).at 13 rfl, (KR.out.below (below_trans HBWD.out below_alloc)).at 0 rfl, (KR.out.below (below_trans HBWD.out below_alloc)).at 1 rfl, (KR.out.below (below_trans HBWD.out below_alloc)).at 2 rfl, (KR.out.below (below_trans HBWD.out below_alloc)).at 3 rfl⟩
      clear hK K hHeld
      have hHeld := hHeld2
      clear hHeld2
      (try simp only [Act.put, List.getElem_toArray, List.getElem_cons_succ, List.getElem_cons_zero, List.setIfInBounds_toArray, List.set_cons_zero, List.set_cons_succ])
      obtain ⟨WX, hWX⟩ : ∃ q, q = WD.alloc (.cells #[.string ⟨#[]⟩, .slice none 0 0, .slice none 0 0] 105) := ⟨_, rfl⟩
      obtain ⟨gx, hgx⟩ : ∃ q, q = WD.heap.size := ⟨_, rfl⟩
      have KX : Hid (Blk WX gx 105 [.string ⟨#[]⟩, .slice none 0 0, .slice none 0 0]) := hide (by rw [hWX, hgx]; exact Blk.made _ _ _)
      have HBWX : Hid (Below W5.heap.size W5 WX) := hide (by rw [hWX]; exact below_trans HBWD.out below_alloc)
      have LBWX : Hid (Below WD.heap.size WD WX) := hide (by rw [hWX]; exact below_alloc)
      have HGgx : Hid (W5.heap.size ≤ gx) := hide (by rw [hgx]; exact HBWD.out.size)
      rw [← hWX] at hHeld
      rw [← hWX, ← hgx]
      clear hWX hgx
      refine wpAnyH_ready (rs := [3]) (by kernel_rfl) (by simp) ?_
      refine AllReadyH.cons rfl (fun K hK => ?_) AllReadyH.nil
      go_simp
      refine hK.out _ _ ?_ (fun hHeld2 => ?_)
      · exact ⟨(KC.out.below (below_trans HBWX.out below_alloc)).at 0 rfl, (KC.out.below (below_trans HBWX.out below_alloc)).at 1 rfl, (KC.out.below (below_trans HBWX.out below_alloc)).at 2 rfl, (KC.out.below (below_trans HBWX.out below_alloc)).at 3 rfl, (KC.out.below (below_trans HBWX.out below_alloc)).at 4 rfl, (KC.out.below (below_trans HBWX.out below_alloc)).at 5 rfl, (KC.out.below (below_trans HBWX.out below_alloc)).at 6 rfl, (KC.out.below (below_trans HBWX.out below_alloc)).at 7 rfl, (KC.out.below (below_trans HBWX.out below_alloc)).at 8 rfl, (KC.out.below (below_trans HBWX.out below_alloc)).at 9 rfl, (KC.out.below (below_trans HBWX.out below_alloc)).at 10 rfl, (KC.out.below (below_trans HBWX.out below_alloc)).at 11 rfl, (KC.out.below (below_trans HBWX.out below_alloc)).at 12 rfl, (KC.out.below (below_trans HBWX.out below_alloc)).at 13 rfl, (KR.out.below (below_trans HBWX.out below_alloc)).at 0 rfl, (KR.out.below (below_trans HBWX.out below_alloc)).at 1 rfl, (KR.out.below (below_trans HBWX.out below_alloc)).at 2 rfl, (KR.out.below (below_trans HBWX.out below_alloc)).at 3 rfl⟩
      clear hK K hHeld
      have hHeld := hHeld2
      clear hHeld2
      (try simp only [Act.put, List.getElem_toArray, List.getElem_cons_succ, List.getElem_cons_zero, List.setIfInBounds_toArray, List.set_cons_zero, List.set_cons_succ])
      obtain ⟨WI, hWI⟩ : ∃ q, q = WX.alloc (.cells #[.int .i64 1, .int .i64 2] 3) := ⟨_, rfl⟩
      obtain ⟨gi, hgi⟩ : ∃ q, q = WX.heap.size := ⟨_, rfl⟩
      have KI : Hid (Blk WI gi 3 [.int .i64 1, .int .i64 2]) := hide (by rw [hWI, hgi]; exact Blk.made _ _ _)
      have HBWI : Hid (Below W5.heap.size W5 WI) := hide (by rw [hWI]; exact below_trans HBWX.out below_alloc)
      have LBWI : Hid (Below WX.heap.size WX WI) := hide (by rw [hWI]; exact below_alloc)
      have HGgi : Hid (W5.heap.size ≤ gi) := hide (by rw [hgi]; exact HBWX.out.size)
      rw [← hWI] at hHeld
      rw [← hWI, ← hgi]
      clear hWI hgi
      have HII : Hid (In WI (some ⟨gi, 0, none⟩) 2 2 ([1, 2] : List Int)) := hide (ints2b_in _ _ 1 2 (i64_sm28 (by omega) (by omega)) (i64_sm28 (by omega) (by omega)) KI.out)
      have KX := hide (KX.out.below LBWI.out)
      refine wpAnyH_ready (rs := [4]) (by kernel_rfl) (by simp) ?_
      refine AllReadyH.cons rfl (fun K hK => ?_) AllReadyH.nil
      go_simp
      go_at_call 59
      refine (ints28_any _ _ 2 2 ([1, 2] : List Int) (by exact HII.out) (by omega)).mono ?_
      rintro e wi6 ⟨⟨A6, d6, rfl, h6⟩, hb6⟩
      have HBwi6 := hide (below_trans HBWI.out hb6)
      have LBwi6 := hide hb6
      have HI6 := hide h6
      clear h6 hb6
      go_wp2_with fail
      refine hK.out _ _ ?_ (fun hHeld2 => ?_)
      · exact ⟨(KC.out.below (HBwi6.out)).at 0 rfl, (KC.out.below (HBwi6.out)).at 1 rfl, (KC.out.below (HBwi6.out)).at 2 rfl, (KC.out.below (HBwi6.out)).at 3 rfl, (KC.out.below (HBwi6.out)).at 4 rfl, (KC.out.below (HBwi6.out)).at 5 rfl, (KC.out.below (HBwi6.out)).at 6 rfl, (KC.out.below (HBwi6.out)).at 7 rfl, (KC.out.below (HBwi6.out)).at 8 rfl, (KC.out.below (HBwi6.out)).at 9 rfl, (KC.out.below (HBwi6.out)).at 10 rfl, (KC.out.below (HBwi6.out)).at 11 rfl, (KC.out.below (HBwi6.out)).at 12 rfl, (KC.out.below (HBwi6.out)).at 13 rfl, (KR.out.below (HBwi6.out)).at 0 rfl, (KR.out.below (HBwi6.out)).at 1 rfl, (KR.out.below (HBwi6.out)).at 2 rfl, (KR.out.below (HBwi6.out)).at 3 rfl⟩
      clear hK K hHeld
      have hHeld := hHeld2
      clear hHeld2
      (try simp only [Act.put, List.getElem_toArray, List.getElem_cons_succ, List.getElem_cons_zero, List.setIfInBounds_toArray, List.set_cons_zero, List.set_cons_succ])
      have KX := hide (KX.out.below LBwi6.out)
      refine wpAnyH_ready (rs := [5]) (by kernel_rfl) (by simp) ?_
      refine AllReadyH.cons rfl (fun K hK => ?_) AllReadyH.nil
      go_simp
      go_at_call 60
      refine (HVE.out _ _ _ (by exact HC5.out.below (HBwi6.out)) _ _ (by exact HE5.out.below (HBwi6.out)) _ _ (by exact HN5.out.below (HBwi6.out)) (by exact HW5.out.below (HBwi6.out)) _ _ (by exact HI6.out)).mono ?_
      rintro e w7 ⟨⟨v7, v8, rfl, ho7, ho8⟩, hb7⟩
      obtain ⟨A7, c7, rfl⟩ := ho7.form
      obtain ⟨A8, c8, rfl⟩ := ho8.form
      have HO7 := hide ho7
      have HBw7 := hide (below_trans HBwi6.out hb7)
      have LBw7 := hide hb7
      clear ho7 ho8 hb7
      go_wp2_with fail
      refine hK.out _ _ ?_ (fun hHeld2 => ?_)
      · exact ⟨(KC.out.below (HBw7.out)).at 0 rfl, (KC.out.below (HBw7.out)).at 1 rfl, (KC.out.below (HBw7.out)).at 2 rfl, (KC.out.below (HBw7.out)).at 3 rfl, (KC.out.below (HBw7.out)).at 4 rfl, (KC.out.below (HBw7.out)).at 5 rfl, (KC.out.below (HBw7.out)).at 6 rfl, (KC.out.below (HBw7.out)).at 7 rfl, (KC.out.below (HBw7.out)).at 8 rfl, (KC.out.below (HBw7.out)).at 9 rfl, (KC.out.below (HBw7.out)).at 10 rfl, (KC.out.below (HBw7.out)).at 11 rfl, (KC.out.below (HBw7.out)).at 12 rfl, (KC.out.below (HBw7.out)).at 13 rfl, (KR.out.below (HBw7.out)).at 0 rfl, (KR.out.below (HBw7.out)).at 1 rfl, (KR.out.below (HBw7.out)).at 2 rfl, (KR.out.below (HBw7.out)).at 3 rfl⟩
      clear hK K hHeld
      have hHeld := hHeld2
      clear hHeld2
      (try simp only [Act.put, List.getElem_toArray, List.getElem_cons_succ, List.getElem_cons_zero, List.setIfInBounds_toArray, List.set_cons_zero, List.set_cons_succ])
      have KX := hide (KX.out.below LBw7.out)
      refine wpAnyH_take (i := 6) (v := ?_) rfl (by kernel_rfl) (by kernel_rfl) (by kernel_rfl) (fun _ _ _ h => h) (Or.inl ⟨by rfl, ?_⟩) hHeld ?_
      rotate_left
      · intro w hSw
        try dsimp only at hSw
        go_simp
        try with_reducible rfl
      (try simp only [Act.put, List.getElem_toArray, List.getElem_cons_succ, List.getElem_cons_zero, List.setIfInBounds_toArray, List.set_cons_zero, List.set_cons_succ])
      refine wpAnyH_take (i := 7) (v := ?_) rfl (by kernel_rfl) (by kernel_rfl) (by kernel_rfl) (fun _ _ _ h => h) (Or.inl ⟨by rfl, ?_⟩) hHeld ?_
      rotate_left
      · intro w hSw
        try dsimp only at hSw
        go_simp
        try with_reducible rfl
      (try simp only [Act.put, List.getElem_toArray, List.getElem_cons_succ, List.getElem_cons_zero, List.setIfInBounds_toArray, List.set_cons_zero, List.set_cons_succ])
      refine wpAnyH_take (i := 8) (v := ?_) rfl (by kernel_rfl) (by kernel_rfl) (by kernel_rfl) (fun _ _ _ h => h) (Or.inl ⟨by rfl, ?_⟩) hHeld ?_
      rotate_left
      · intro w hSw
        try dsimp only at hSw
        go_simp
        try with_reducible rfl
      (try simp only [Act.put, List.getElem_toArray, List.getElem_cons_succ, List.getElem_cons_zero, List.setIfInBounds_toArray, List.set_cons_zero, List.set_cons_succ])
      have x0 := KX.out.at 0 rfl
      have x1 := KX.out.at 1 rfl
      have x2 := KX.out.at 2 rfl
      have y0 := KX.out.fz 0
      have y1 := KX.out.fz 1
      have y2 := KX.out.fz 2
      have n5 : ¬ g5 = gx := fun e => by have h1 := KR.out.lt; have h2 := HGgx.out; omega
      have n7 : ¬ g7 = gx := fun e => by have h1 := KC.out.lt; have h2 := HGgx.out; omega
      refine wpAnyH_ready (rs := [10]) (by kernel_rfl) (by simp) ?_
      refine AllReadyH.cons rfl (fun K hK => ?_) AllReadyH.nil
      go_simp
      refine hK.out _ _ ?_ (fun hHeld2 => ?_)
      · exact ⟨set_far (set_far (set_far ((KC.out.below HBw7.out).at 0 rfl) (.inl n7)) (.inl n7)) (.inl n7), set_far (set_far (set_far ((KC.out.below HBw7.out).at 1 rfl) (.inl n7)) (.inl n7)) (.inl n7), set_far (set_far (set_far ((KC.out.below HBw7.out).at 2 rfl) (.inl n7)) (.inl n7)) (.inl n7), set_far (set_far (set_far ((KC.out.below HBw7.out).at 3 rfl) (.inl n7)) (.inl n7)) (.inl n7), set_far (set_far (set_far ((KC.out.below HBw7.out).at 4 rfl) (.inl n7)) (.inl n7)) (.inl n7), set_far (set_far (set_far ((KC.out.below HBw7.out).at 5 rfl) (.inl n7)) (.inl n7)) (.inl n7), set_far (set_far (set_far ((KC.out.below HBw7.out).at 6 rfl) (.inl n7)) (.inl n7)) (.inl n7), set_far (set_far (set_far ((KC.out.below HBw7.out).at 7 rfl) (.inl n7)) (.inl n7)) (.inl n7), set_far (set_far (set_far ((KC.out.below HBw7.out).at 8 rfl) (.inl n7)) (.inl n7)) (.inl n7), set_far (set_far (set_far ((KC.out.below HBw7.out).at 9 rfl) (.inl n7)) (.inl n7)) (.inl n7), set_far (set_far (set_far ((KC.out.below HBw7.out).at 10 rfl) (.inl n7)) (.inl n7)) (.inl n7), set_far (set_far (set_far ((KC.out.below HBw7.out).at 11 rfl) (.inl n7)) (.inl n7)) (.inl n7), set_far (set_far (set_far ((KC.out.below HBw7.out).at 12 rfl) (.inl n7)) (.inl n7)) (.inl n7), set_far (set_far (set_far ((KC.out.below HBw7.out).at 13 rfl) (.inl n7)) (.inl n7)) (.inl n7), set_far (set_far (set_far ((KR.out.below HBw7.out).at 0 rfl) (.inl n5)) (.inl n5)) (.inl n5), set_far (set_far (set_far ((KR.out.below HBw7.out).at 1 rfl) (.inl n5)) (.inl n5)) (.inl n5), set_far (set_far (set_far ((KR.out.below HBw7.out).at 2 rfl) (.inl n5)) (.inl n5)) (.inl n5), set_far (set_far (set_far ((KR.out.below HBw7.out).at 3 rfl) (.inl n5)) (.inl n5)) (.inl n5)⟩
      clear hK K hHeld
      have hHeld := hHeld2
      clear hHeld2
      (try simp only [Act.put, List.getElem_toArray, List.getElem_cons_succ, List.getElem_cons_zero, List.setIfInBounds_toArray, List.set_cons_zero, List.set_cons_succ])
      refine wpAnyH_take (i := 11) (v := ?_) rfl (by kernel_rfl) (by kernel_rfl) (by kernel_rfl) (fun _ _ _ h => h) (Or.inl ⟨by rfl, ?_⟩) hHeld ?_
      rotate_left
      · intro w hSw
        try dsimp only at hSw
        go_simp
        try with_reducible rfl
      (try simp only [Act.put, List.getElem_toArray, List.getElem_cons_succ, List.getElem_cons_zero, List.setIfInBounds_toArray, List.set_cons_zero, List.set_cons_succ])
      refine wpAnyH_done (by kernel_rfl) ?_ _
      have HX7 := hide ((((HO7.out.off KX.out.ty (.inr fun _ h => h) (by decide) (by decide) 0 (.string ⟨#[99]⟩)).off (KX.out.ty.set _ _ _) (.inr fun _ h => h) (by decide) (by decide) 1 (.slice A7 1 c7)).off ((KX.out.ty.set _ _ _).set _ _ _) (.inr fun _ h => h) (by decide) (by decide) 2 (.slice A8 1 c8)))
      go_wp2_with fail
      go_meet
      case rel => exact ⟨gx, A7, c7, A8, c8, rfl, rfl, KX.out.set3 rfl, ol_in HX7.out rfl, below_set (below_set (below_set HBw7.out HGgx.out _ _) HGgx.out _ _) HGgx.out _ _⟩
  case rest =>
    obtain ⟨gx, A7, c7, A8, c8, rfl, rfl, hkx, hx7, hb⟩ := hcut
    have KX := hide hkx
    have HBC := hide hb
    have HBW := hide (below_trans (below_trans HB4.out LHC14.out) HBC.out)
    obtain ⟨bv, ov, v, rfl, hBv, HV, f0, f1, f2, vok⟩ := hx7.val (k := 0) (by omega)
    obtain rfl : iV 1 = v := by have h := HV.out; simpa using h
    have F1 := hide f1
    have HBV := hide hBv
    clear hkx hx7 hb f0 f1 f2 HV hBv
    have KR := hide (KR.out.below HBC.out)
    have HC6 := hide (HC5.out.below HBC.out)
    have HE6 := hide (HE5.out.below HBC.out)
    have HW6 := hide (HW5.out.below HBC.out)
    clear KE KN KC
    clear HC5 HE5 HW5 HVE HVC
    obtain ⟨LTKR, q0, q1, q2, q3⟩ := KR.out.ats4
    go_wp2_with fail
    obtain ⟨W915, hW915⟩ : ∃ W, W = wc.alloc (.cells #[.string ⟨#[97]⟩] 9) := ⟨_, rfl⟩
    obtain ⟨ga, hga⟩ : ∃ q, q = wc.heap.size := ⟨_, rfl⟩
    have KA : Hid (Blk W915 ga 9 [.string ⟨#[97]⟩]) := hide (by rw [hW915, hga]; exact Blk.made _ _ _)
    have SZga : Hid (W915.heap.size = ga + 1) := hide (by rw [hW915, hga]; exact World.size_alloc _ _)
    have LBga : Hid (Below wc.heap.size wc W915) := hide (by rw [hW915]; exact below_alloc)
    have HGga : Hid (wc.heap.size ≤ ga) := hide (by rw [hga]; exact Nat.le_refl _)
    have NEg5_ga : Hid (¬ g5 = ga) := hide (by have h := KR.out.lt; omega)
    have NEgx_ga : Hid (¬ gx = ga) := hide (by have h := KX.out.lt; omega)
    rw [← hW915, ← hga]
    have HEga := hide hga
    clear hW915 hga
    have KR := hide (KR.out.below LBga.out)
    have KX := hide (KX.out.below LBga.out)
    have LHBga := hide LBga.out
    obtain ⟨W916, hW916⟩ : ∃ W, W = W915.alloc (.cells #[.string ⟨#[98]⟩] 9) := ⟨_, rfl⟩
    obtain ⟨gb, hgb⟩ : ∃ q, q = W915.heap.size := ⟨_, rfl⟩
    have KB : Hid (Blk W916 gb 9 [.string ⟨#[98]⟩]) := hide (by rw [hW916, hgb]; exact Blk.made _ _ _)
    have SZgb : Hid (W916.heap.size = gb + 1) := hide (by rw [hW916, hgb]; exact World.size_alloc _ _)
    have LBgb : Hid (Below W915.heap.size W915 W916) := hide (by rw [hW916]; exact below_alloc)
    have HGgb : Hid (wc.heap.size ≤ gb) := hide (by rw [hgb]; exact LHBga.out.size)
    have NEg5_gb : Hid (¬ g5 = gb) := hide (by have h := KR.out.lt; omega)
    have NEgx_gb : Hid (¬ gx = gb) := hide (by have h := KX.out.lt; omega)
    have NEga_gb : Hid (¬ ga = gb) := hide (by have h := KA.out.lt; omega)
    have hqgb : gb = ga + 1 := by rw [hgb]; exact SZga.out
    rw [← hW916, ← hqgb]
    clear hqgb
    have HEgb := hide hgb
    clear hW916 hgb
    have KR := hide (KR.out.below LBgb.out)
    have KX := hide (KX.out.below LBgb.out)
    have KA := hide (KA.out.below LBgb.out)
    have LHBgb := hide (below_trans LHBga.out LBgb.out)
    have HNA := hide (name_in _ ga ⟨#[97]⟩ str_a KA.out)
    have HNB := hide (name_in _ gb ⟨#[98]⟩ str_b KB.out)
    obtain ⟨_, r0, r1, r2, r3⟩ := KR.out.ats4
    go_wp2_with fail
    refine (HVJ.out _ _ _ (HC6.out.below LHBgb.out) _ _ (HE6.out.below LHBgb.out) _ _ HNA.out _ _ HNB.out (HW6.out.below LHBgb.out)).mono ?_
    rintro e w17 ⟨rfl, hb17⟩
    clear LTKR q0 q1 q2 q3 r0 r1 r2 r3
    have KR := hide (KR.out.below hb17)
    have KX := hide (KX.out.below hb17)
    have KA := hide (KA.out.below hb17)
    have KB := hide (KB.out.below hb17)
    have LHC17 := hide (below_trans LHBgb.out hb17)
    clear hb17
    go_upto_region 6 with (fail)
    obtain ⟨W918, hW918⟩ : ∃ W, W = w17.alloc (.cells #[.string ⟨#[116]⟩, .bool true, .int .i64 0, .int .i64 4, .int .i64 10] 68) := ⟨_, rfl⟩
    obtain ⟨gv, hgv⟩ : ∃ q, q = w17.heap.size := ⟨_, rfl⟩
    have KV : Hid (Blk W918 gv 68 [.string ⟨#[116]⟩, .bool true, .int .i64 0, .int .i64 4, .int .i64 10]) := hide (by rw [hW918, hgv]; exact Blk.made _ _ _)
    have SZgv : Hid (W918.heap.size = gv + 1) := hide (by rw [hW918, hgv]; exact World.size_alloc _ _)
    have LBgv : Hid (Below w17.heap.size w17 W918) := hide (by rw [hW918]; exact below_alloc)
    have HGgv : Hid (wc.heap.size ≤ gv) := hide (by rw [hgv]; exact LHC17.out.size)
    have NEg5_gv : Hid (¬ g5 = gv) := hide (by have h := KR.out.lt; omega)
    have NEgx_gv : Hid (¬ gx = gv) := hide (by have h := KX.out.lt; omega)
    have NEga_gv : Hid (¬ ga = gv) := hide (by have h := KA.out.lt; omega)
    have NEgb_gv : Hid (¬ gb = gv) := hide (by have h := KB.out.lt; omega)
    rw [← hW918, ← hgv]
    have HEgv := hide hgv
    clear hW918 hgv
    have KX := hide (KX.out.below LBgv.out)
    have LHBgv := hide (below_trans LHC17.out LBgv.out)
    obtain ⟨LTKX, x0, x1, x2⟩ := KX.out.ats3
    obtain ⟨LTKV, v0, v1, v2, v3, v4⟩ := KV.out.ats5
    have f1 := bat LHBgv.out HBV.out F1.out
    simp only [Nat.zero_mul, Nat.add_zero, iV] at f1
    have HBZ := hide LHBgv.out
    go_wp2
    go_ret
    exact ⟨rfl, below_trans HBW.out HBZ.out⟩
end Go.Proofs.YtggejcekmehocaaGreatDoor
