/-
  warehouselaw9.types, value, not, known: what they return.
-/
import Derived.Test.YtmnhahilbbnkkaaDoorGah
import Derived.Test.YtmnhahilbbnkkaaDoorEvA
import Derived.Test.YtmnhahilbbnkkaaDoorTypR
namespace Go.Proofs.YtmnhahilbbnkkaaDoor
open Go.RowKit
set_option linter.unusedSimpArgs false
set_option linter.unusedVariables false

theorem In.cols_i64 {w : World} {A : Option Addr} {n c : Nat} {cols : List Col} (h : In w A n c cols) : ∀ x ∈ cols, I64 x.kind := by
  intro x hx
  obtain ⟨i, hi, rfl⟩ := List.mem_iff_getElem.1 hx
  have hn : i < n := by rw [← h.len]; exact hi
  obtain ⟨b, off, y, _, _, HY, _, _, _, hok⟩ := h.col hn
  have := (drop_get HY.out).1
  rw [List.getElem?_eq_getElem hi] at this
  injection this with this
  rw [this]; exact hok.2
set_option maxHeartbeats 1000000 in
set_option maxRecDepth 100000 in
theorem types_any (w : World) (A : Option Addr) (n c : Nat) (es : List Node) (hx : In w A n c es) (hw : Words w) (A1 : Option Addr) (n1 c1 : Nat) (cols : List Col) (hc : In w A1 n1 c1 cols)
    (A2 : Option Addr) (n2 c2 : Nat) (zs : List Zone) (hz : In w A2 n2 c2 zs) :
    Calls Tryd.prog 7 #[.slice A n c, .slice A1 n1 c1, .slice A2 n2 c2] w fun e w' => e = .returned (.bool true) ∧ Below w.heap.size w w' := by
  go_enter Tryd.func7, Tryd.ntmps7
  go_wp2_with fail
  refine (type_any _ _ _ _ es hx hw _ _ _ cols hc _ _ _ zs hz).mono ?_
  rintro e w1 ⟨rfl, hb1⟩
  go_wp2_with fail
  refine (type_ref _ _ _ _ es (hx.below hb1) _ _ _ cols (hc.below hb1) hc.cols_i64 _ _ _ zs (hz.below hb1)).mono ?_
  rintro e w2 ⟨rfl, hb2⟩
  obtain ⟨⟨te, ⟨tk, tn⟩⟩, ht⟩ : ∃ q, typeS es cols zs = q := ⟨_, rfl⟩
  rw [ht]
  clear ht
  have q1 : (tn == tn) = true := by simp
  go_wp2
  all_goals (try (exfalso; go_light; simp_all; done))
  go_ret
  exact ⟨ret_bool (by simp), below_trans hb1 hb2⟩
set_option maxHeartbeats 8000000 in
set_option maxRecDepth 100000 in
theorem valueE_any (w : World) (A : Option Addr) (n c : Nat) (es : List Node) (hx : In w A n c es) (hw : Words w) (A3 : Option Addr) (n3 c3 : Nat) (row : List Val) (hr : In w A3 n3 c3 row) :
    Calls Tryd.prog 14 #[.slice A n c, .slice A3 n3 c3] w fun e w' => e = .returned (.tuple #[.agg (evalS es cols5 row zs3).2.cells.toArray, .bool ((evalS es cols5 row zs3).1 == 0)]) ∧ Below w.heap.size w w' := by
  go_enter Tryd.func14, Tryd.ntmps14
  have hx := hx.below (below_alloc (o := .cells #[.int .i64 0, .int .i64 0, .string ⟨#[]⟩] 27))
  have hr := hr.below (below_alloc (o := .cells #[.int .i64 0, .int .i64 0, .string ⟨#[]⟩] 27))
  have hw := hw.below (below_alloc (o := .cells #[.int .i64 0, .int .i64 0, .string ⟨#[]⟩] 27))
  have Z := hide (Zr.made w 27)
  go_wp2_with fail
  refine (columns_any _).mono ?_
  rintro e w1 ⟨⟨rfl, hc⟩, hb1⟩
  obtain ⟨gc, hgc⟩ : ∃ g, (w.alloc (.cells #[.int .i64 0, .int .i64 0, .string ⟨#[]⟩] 27)).heap.size = g := ⟨_, rfl⟩
  rw [hgc] at hc
  rw [hgc]
  clear hgc
  go_wp2_with fail
  refine (zones_any _).mono ?_
  rintro e w2 ⟨⟨g, rfl, hz⟩, hb2⟩
  have hbb := below_trans hb1 hb2
  go_wp2_with fail
  refine (eval_any _ _ _ _ es (hx.below hbb) (hw.below hbb) _ _ _ cols5 (hc.below hb2) _ _ _ row (hr.below hbb) _ _ _ zs3 hz).mono ?_
  rintro e w3 ⟨rfl, hb3⟩
  have hbb := below_trans hbb hb3
  obtain ⟨⟨te, ⟨tk, tn, ts⟩⟩, ht⟩ : ∃ q, evalS es cols5 row zs3 = q := ⟨_, rfl⟩
  have HT := hide ht
  rw [ht]
  simp only [Val.cells]
  have Z := hide (Z.out.below hbb)
  have hb0 := below_trans (below_alloc (w := w)) hbb
  clear ht hb1 hb2 hb3 hbb hx hr hw hc hz
  go_upto_region 2 with (fail)
  obtain ⟨w4, hw4⟩ : ∃ w4, w4 = w3.alloc (.cells #[.int .i64 tk, .int .i64 tn, .string ts] 27) := ⟨_, rfl⟩
  have y0 : w4.cell? ⟨w3.heap.size, 0, none⟩ = some (.int .i64 tk) := by rw [hw4]; simp [go_sem]
  have y1 : w4.cell? ⟨w3.heap.size, 1, none⟩ = some (.int .i64 tn) := by rw [hw4]; simp [go_sem]
  have y2 : w4.cell? ⟨w3.heap.size, 2, none⟩ = some (.string ts) := by rw [hw4]; simp [go_sem]
  have hb4 : Below w3.heap.size w3 w4 := by rw [hw4]; exact below_alloc
  rw [← hw4]
  clear hw4
  have Z := hide (Z.out.below hb4)
  have hb0 := below_trans hb0 hb4
  clear hb4
  obtain ⟨z0, z1, z2, f0, f1, f2, _⟩ := Z.out
  go_wp2
  refine bodyPost_ret (v := .tuple #[.agg (Val.cells ⟨tk, tn, ts⟩).toArray, .bool (te == 0)]) (results_cells2 (cs := Val.cells ⟨tk, tn, ts⟩) rfl _ _ w.heap.size _ _ rfl rfl (set_three z0 z1 z2) Tryd.underlying27 rfl (by kernel_rfl)) rfl ⟨by rw [HT.out], below_set3 hb0 (Nat.le_refl _) _ _ _⟩
theorem nil_zones (w : World) : In w none 0 0 ([] : List Zone) := In.nil_
theorem row1_in (W : World) : In (W.alloc (.cells #[.int .i64 2, .int .i64 0, .string ⟨#[]⟩] 27)) (some ⟨W.heap.size, 0, none⟩) 1 1 [(⟨2, 0, ⟨#[]⟩⟩ : Val)] :=
  (Stk.at_ (n := 1) (B := 0) (xs := [(⟨2, 0, ⟨#[]⟩⟩ : Val)]) (heap_alloc_new W _) rfl (by intro x hx; simp at hx; subst hx; exact ⟨by simp [I64], by simp [I64], by simp [Str, ByteArray.size]⟩) (Nat.zero_le _) rfl (by omega)).inn
set_option maxHeartbeats 4000000 in
set_option maxRecDepth 100000 in
theorem known_any (w : World) (hw : Words w) : Calls Tryd.prog 10 #[] w fun e w' => e = .returned (.bool true) ∧ Below w.heap.size w w' := by
  go_enter Tryd.func10, Tryd.ntmps10
  go_wp2_with fail
  refine (constant_any ⟨2, 0, ⟨#[]⟩⟩ ⟨by simp [I64], by simp [I64], by simp [Str, ByteArray.size]⟩ _).mono ?_
  rintro e w1 ⟨⟨A1, c1, rfl, hst1⟩, hb1⟩
  have N1 := hide hst1.inn
  simp only [List.length_singleton] at N1 ⊢
  clear hst1
  go_wp2_with fail
  refine (constant_any ⟨2, 1, ⟨#[]⟩⟩ ⟨by simp [I64], by simp [I64], by simp [Str, ByteArray.size]⟩ _).mono ?_
  rintro e w2 ⟨⟨A2, c2, rfl, hst2⟩, hb2⟩
  have N2 := hide hst2.inn
  have N1 := hide (N1.out.below hb2)
  simp only [List.length_singleton] at N2 ⊢
  have bb2 := below_trans hb1 hb2
  clear hst2 hb1 hb2
  -- one / zero
  go_wp2_with fail
  refine (both_any 7 (by simp [I64]) _ _ _ _ _ N2.out _ _ _ _ N1.out (by decide) (by decide)).mono ?_
  rintro e w3 ⟨⟨A3, c3, rfl, hst3⟩, hb3⟩
  have K1 := hide known1
  obtain ⟨L, hL⟩ : ∃ q, ([conNode ⟨2, 1, ⟨#[]⟩⟩] ++ [conNode ⟨2, 0, ⟨#[]⟩⟩]) ++ [opNode 7] = q := ⟨_, rfl⟩
  rw [hL] at K1
  rw [hL] at hst3
  rw [hL]
  have N3 := hide hst3.inn
  have N2 := hide (N2.out.below hb3)
  have bb3 := below_trans bb2 hb3
  clear hst3 hb3 hL bb2 N1
  go_wp2_with fail
  refine (columns_any _).mono ?_
  rintro e w4 ⟨⟨rfl, hc4⟩, hb4⟩
  have N3 := hide (N3.out.below hb4)
  have N2 := hide (N2.out.below hb4)
  have bb4 := below_trans bb3 hb4
  have C4 := hide (hc4.take (show 1 ≤ 5 by omega))
  clear hc4 hb4 bb3
  go_wp2_with fail
  have bb5 := below_trans bb4 (below_alloc (w := w4) (o := .cells #[.int .i64 2, .int .i64 0, .string ⟨#[]⟩] 27))
  refine (eval_any _ _ _ _ L (N3.out.below below_alloc) (hw.below bb5) _ _ _ (cols5.take 1) (C4.out.below below_alloc) _ _ _ [⟨2, 0, ⟨#[]⟩⟩] (row1_in w4) _ _ _ [] (nil_zones _)).mono ?_
  rintro e w5 ⟨rfl, hb5⟩
  rw [K1.out]
  have N2 := hide (N2.out.below (below_trans below_alloc hb5))
  have bb5 := below_trans bb5 hb5
  clear hb5 bb4 C4 N3 K1
  simp only [nullV, Val.cells]
  obtain ⟨w6, hw6⟩ : ∃ w6, w6 = w5.alloc (.cells #[.int .i64 0, .int .i64 0, .string ⟨#[]⟩] 27) := ⟨_, rfl⟩
  have y0 : w6.cell? ⟨w5.heap.size, 0, none⟩ = some (.int .i64 0) := by rw [hw6]; simp [go_sem]
  have y1 : w6.cell? ⟨w5.heap.size, 1, none⟩ = some (.int .i64 0) := by rw [hw6]; simp [go_sem]
  have y2 : w6.cell? ⟨w5.heap.size, 2, none⟩ = some (.string ⟨#[]⟩) := by rw [hw6]; simp [go_sem]
  have hb6 : Below w5.heap.size w5 w6 := by rw [hw6]; exact below_alloc
  go_upto_region 4 with (fail)
  rw [← hw6]
  obtain ⟨G, hG⟩ : ∃ G, w5.heap.size = G := ⟨_, rfl⟩
  rw [hG] at y0 y1 y2
  rw [hG]
  have N2 := hide (N2.out.below hb6)
  have bb6 := below_trans bb5 hb6
  have hg := lt_of_cell y0
  clear hw6 hG hb6 bb5
  -- one + one
  go_wp2_with fail
  refine (both_any 4 (by simp [I64]) _ _ _ _ _ N2.out _ _ _ _ N2.out (by decide) (by decide)).mono ?_
  rintro e w3 ⟨⟨A3, c3, rfl, hst3⟩, hb3⟩
  have K1 := hide known2
  obtain ⟨L, hL⟩ : ∃ q, ([conNode ⟨2, 1, ⟨#[]⟩⟩] ++ [conNode ⟨2, 1, ⟨#[]⟩⟩]) ++ [opNode 4] = q := ⟨_, rfl⟩
  rw [hL] at K1
  rw [hL] at hst3
  rw [hL]
  have N3 := hide hst3.inn
  have N2 := hide (N2.out.below hb3)
  have y0 := bat hb3 hg y0
  have y1 := bat hb3 hg y1
  have y2 := bat hb3 hg y2
  have hg := lt_of_cell y0
  have bb3 := below_trans bb6 hb3
  clear hst3 hb3 hL bb6
  go_wp2_with fail
  refine (columns_any _).mono ?_
  rintro e w4 ⟨⟨rfl, hc4⟩, hb4⟩
  have N3 := hide (N3.out.below hb4)
  have N2 := hide (N2.out.below hb4)
  have bb4 := below_trans bb3 hb4
  have C4 := hide (hc4.take (show 1 ≤ 5 by omega))
  have y0 := bat hb4 hg y0
  have y1 := bat hb4 hg y1
  have y2 := bat hb4 hg y2
  have hg := lt_of_cell y0
  clear hc4 hb4 bb3
  go_wp2_with fail
  have bb5 := below_trans bb4 (below_alloc (w := w4) (o := .cells #[.int .i64 2, .int .i64 0, .string ⟨#[]⟩] 27))
  refine (eval_any _ _ _ _ L (N3.out.below below_alloc) (hw.below bb5) _ _ _ (cols5.take 1) (C4.out.below below_alloc) _ _ _ [⟨2, 0, ⟨#[]⟩⟩] (row1_in w4) _ _ _ [] (nil_zones _)).mono ?_
  rintro e w5 ⟨rfl, hb5⟩
  rw [K1.out]
  have hbb := below_trans below_alloc hb5
  have N2 := hide (N2.out.below hbb)
  have bb5 := below_trans bb5 hb5
  have y0 := bat hbb hg y0
  have y1 := bat hbb hg y1
  have y2 := bat hbb hg y2
  have hg := lt_of_cell y0
  clear hb5 bb4 C4 N3 K1 hbb
  simp only [Val.cells]
  obtain ⟨w6, hw6⟩ : ∃ w6, w6 = w5.alloc (.cells #[.int .i64 2, .int .i64 2, .string ⟨#[]⟩] 27) := ⟨_, rfl⟩
  have z1 : w6.cell? ⟨w5.heap.size, 1, none⟩ = some (.int .i64 2) := by rw [hw6]; simp [go_sem]
  have hb6 : Below w5.heap.size w5 w6 := by rw [hw6]; exact below_alloc
  go_upto_region 5 with (fail)
  rw [← hw6]
  obtain ⟨G2, hG⟩ : ∃ G, w5.heap.size = G := ⟨_, rfl⟩
  rw [hG] at z1
  rw [hG]
  have N2 := hide (N2.out.below hb6)
  have bb6 := below_trans bb5 hb6
  have y0 := bat hb6 hg y0
  have y1 := bat hb6 hg y1
  have y2 := bat hb6 hg y2
  have hg := lt_of_cell y0
  have hg2 := lt_of_cell z1
  clear hw6 hG hb6 bb5
  -- one + a text
  go_wp2_with fail
  refine (constant_any ⟨3, 0, ⟨#[]⟩⟩ ⟨by simp [I64], by simp [I64], by simp [Str, ByteArray.size]⟩ _).mono ?_
  rintro e w2 ⟨⟨A4, c4, rfl, hst2⟩, hb2⟩
  have N1 := hide hst2.inn
  have N2 := hide (N2.out.below hb2)
  simp only [List.length_singleton] at N1 ⊢
  have bb2 := below_trans bb6 hb2
  have y0 := bat hb2 hg y0
  have y1 := bat hb2 hg y1
  have y2 := bat hb2 hg y2
  have z1 := bat hb2 hg2 z1
  have hg := lt_of_cell y0
  have hg2 := lt_of_cell z1
  clear hst2 bb6 hb2
  go_wp2_with fail
  refine (both_any 4 (by simp [I64]) _ _ _ _ _ N2.out _ _ _ _ N1.out (by decide) (by decide)).mono ?_
  rintro e w3 ⟨⟨A3, c3, rfl, hst3⟩, hb3⟩
  have K1 := hide known3
  obtain ⟨L, hL⟩ : ∃ q, ([conNode ⟨2, 1, ⟨#[]⟩⟩] ++ [conNode ⟨3, 0, ⟨#[]⟩⟩]) ++ [opNode 4] = q := ⟨_, rfl⟩
  rw [hL] at K1
  rw [hL] at hst3
  rw [hL]
  have N3 := hide hst3.inn
  have bb3 := below_trans bb2 hb3
  have y0 := bat hb3 hg y0
  have y1 := bat hb3 hg y1
  have y2 := bat hb3 hg y2
  have z1 := bat hb3 hg2 z1
  have hg := lt_of_cell y0
  have hg2 := lt_of_cell z1
  clear hst3 hb3 hL bb2 N1 N2
  go_wp2_with fail
  refine (columns_any _).mono ?_
  rintro e w4 ⟨⟨rfl, hc4⟩, hb4⟩
  have N3 := hide (N3.out.below hb4)
  have bb4 := below_trans bb3 hb4
  have C4 := hide hc4
  have y0 := bat hb4 hg y0
  have y1 := bat hb4 hg y1
  have y2 := bat hb4 hg y2
  have z1 := bat hb4 hg2 z1
  have hg := lt_of_cell y0
  have hg2 := lt_of_cell z1
  clear hc4 hb4 bb3
  go_wp2_with fail
  refine (type_any _ _ _ _ L N3.out (hw.below bb4) _ _ _ cols5 C4.out _ _ _ [] (nil_zones _)).mono ?_
  rintro e w5 ⟨rfl, hb5⟩
  obtain ⟨⟨te, ⟨tk, tn⟩⟩, ht⟩ : ∃ q, typeS L cols5 [] = q := ⟨_, rfl⟩
  have hte : te = 7 := by have h := K1.out; rw [ht] at h; exact h
  subst hte
  rw [ht]
  have bb5 := below_trans bb4 hb5
  have y0 := bat hb5 hg y0
  have y1 := bat hb5 hg y1
  have y2 := bat hb5 hg y2
  have z1 := bat hb5 hg2 z1
  clear ht hb5 bb4 C4 N3 K1
  go_wp2
  all_goals (try (exfalso; go_light; simp_all; done))
  go_ret
  exact ⟨ret_bool (by simp), bb5⟩
end Go.Proofs.YtmnhahilbbnkkaaDoor
