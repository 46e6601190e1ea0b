/-
  warehouseref9.Eval: it returns evalS. warehousebase: Expr: what is built has a type. (Printed by gen_expr.py.)
-/
import Derived.Test.YtmnhahilbbnkkaaGreatDoorValR
import Derived.Test.YtmnhahilbbnkkaaGreatDoorExB
namespace Go.Proofs.YtmnhahilbbnkkaaGreatDoor
open Go.RowKit
set_option linter.unusedSimpArgs false
set_option linter.unusedVariables false

theorem In.cols_i64 {w : World} {A : Option Addr} {n c : Nat} {cols : List Col} (h : In w A n c cols) : ∀ x ∈ cols, I64 x.kind := by
  intro x hx
  obtain ⟨i, hi, rfl⟩ := List.mem_iff_getElem.1 hx
  have hn : i < n := by rw [← h.len]; exact hi
  obtain ⟨b, off, y, _, _, HY, _, _, _, hok⟩ := h.col hn
  have := (drop_get HY.out).1
  rw [List.getElem?_eq_getElem hi] at this
  injection this with this
  rw [this]; exact hok.2
set_option maxHeartbeats 4000000 in
set_option maxRecDepth 100000 in
theorem eval_ref (w : World) (A : Option Addr) (n c : Nat) (es : List Node) (hx : In w A n c es) (A1 : Option Addr) (n1 c1 : Nat) (cols : List Col) (hc : In w A1 n1 c1 cols)
    (A3 : Option Addr) (n3 c3 : Nat) (row : List Val) (hr : In w A3 n3 c3 row) (A2 : Option Addr) (n2 c2 : Nat) (zs : List Zone) (hz : In w A2 n2 c2 zs) :
    Calls Tryz.prog 31 #[.slice A n c, .slice A1 n1 c1, .slice A3 n3 c3, .slice A2 n2 c2] w fun e w' => e = .returned (.tuple #[.agg (evalS es cols row zs).2.cells.toArray, .int .i64 (evalS es cols row zs).1]) ∧ Below w.heap.size w w' := by
  go_enter Tryz.func31, Tryz.ntmps31
  go_wp2_with fail
  refine (type_ref _ _ _ _ es (hx.below below_alloc) _ _ _ cols (hc.below below_alloc) (hc.cols_i64) _ _ _ zs (hz.below below_alloc)).mono ?_
  rintro e w1 ⟨rfl, hb1⟩
  have Z := hide ((Zr.made w 41).below hb1)
  have hbb := below_trans below_alloc hb1
  clear hb1
  obtain ⟨te, ht⟩ : ∃ q, typeS es cols zs = q := ⟨_, rfl⟩
  obtain ⟨te, tk⟩ := te
  have HT := hide ht
  rw [ht]
  clear ht
  by_cases h0 : ¬ te = 0
  · have HN : Hid (evalS es cols row zs = (te, nullV)) := hide (by rw [evalS, HT.out, if_pos h0])
    have q : (te != 0) = true := by simpa using h0
    obtain ⟨z0, z1, z2, f0, f1, f2, _⟩ := Z.out
    clear h0
    go_wp2
    refine bodyPost_ret (v := .tuple #[.agg (Val.cells nullV).toArray, .int .i64 (te)]) (results_cells2 (cs := Val.cells nullV) rfl _ _ w.heap.size _ _ rfl rfl (set_three z0 z1 z2) Tryz.underlying41 rfl (by kernel_rfl)) rfl ⟨by rw [HN.out], below_set3 hbb (Nat.le_refl _) _ _ _⟩
  replace h0 : te = 0 := by omega
  subst h0
  go_wp2_with fail
  refine (checkRow_ref _ _ _ _ _ _ _ cols row (hc.below hbb) (hr.below hbb)).mono ?_
  rintro e w2 ⟨rfl, hb2⟩
  have Z := hide (Z.out.below hb2)
  have hbb := below_trans hbb hb2
  clear hb2
  by_cases h1 : ¬ rowErr cols row = 0
  · have HN : Hid (evalS es cols row zs = (rowErr cols row, nullV)) := hide (by rw [evalS, HT.out, if_neg (by simp), if_pos h1])
    have q : (rowErr cols row != 0) = true := by simpa using h1
    obtain ⟨z0, z1, z2, f0, f1, f2, _⟩ := Z.out
    clear h1
    go_wp2
    refine bodyPost_ret (v := .tuple #[.agg (Val.cells nullV).toArray, .int .i64 (rowErr cols row)]) (results_cells2 (cs := Val.cells nullV) rfl _ _ w.heap.size _ _ rfl rfl (set_three z0 z1 z2) Tryz.underlying41 rfl (by kernel_rfl)) rfl ⟨by rw [HN.out], below_set3 hbb (Nat.le_refl _) _ _ _⟩
  replace h1 : rowErr cols row = 0 := by omega
  have HR := hide h1
  have HN : Hid (evalS es cols row zs = (0, valLoop cols row zs [] es)) := hide (by rw [evalS, HT.out, if_neg (by simp), if_neg (by simp [h1])])
  rw [h1]
  clear h1
  go_wp2_with fail
  refine (valL_ref _ _ _ _ es (hx.below hbb) _ _ _ cols (hc.below hbb) _ _ _ row (hr.below hbb) _ _ _ zs (hz.below hbb) (by rw [HT.out]) HR.out).mono ?_
  rintro e w3 ⟨rfl, hb3⟩
  have Z := hide (Z.out.below hb3)
  have hbb := below_trans hbb hb3
  clear hb3
  obtain ⟨⟨vk, vn, vs⟩, hv⟩ : ∃ q, valLoop cols row zs [] es = q := ⟨_, rfl⟩
  rw [hv] at HN
  rw [hv]
  simp only [Val.cells]
  clear hv
  obtain ⟨z0, z1, z2, f0, f1, f2, _⟩ := Z.out
  go_wp2
  refine bodyPost_ret (v := .tuple #[.agg (Val.cells ⟨vk, vn, vs⟩).toArray, .int .i64 0]) (results_cells2 (cs := Val.cells ⟨vk, vn, vs⟩) rfl _ _ w.heap.size _ _ rfl rfl (set_three z0 z1 z2) Tryz.underlying41 rfl (by kernel_rfl)) rfl ⟨by rw [HN.out], below_set3 hbb (Nat.le_refl _) _ _ _⟩
end Go.Proofs.YtmnhahilbbnkkaaGreatDoor

namespace Go.Proofs.YtmnhahilbbnkkaaGreatDoor
open Go.RowKit
set_option linter.unusedSimpArgs false
set_option linter.unusedVariables false

theorem expr_zero (cols : List Col) (G : GoodCols cols) : ExprAt cols 0 := by
  intro k hk0 hk1 a ha0 ha1 w A1 n1 c1 hc A n c l hl
  have hB := atB_le 0
  obtain ⟨m3, hm3, hw0⟩ := wr_ (v := 3 * a) (by omega)
  obtain ⟨p1, hp1, hw1⟩ := wr_ (v := m3 + 1) (by omega)
  obtain ⟨p2, hp2, hw2⟩ := wr_ (v := m3 + 2) (by omega)
  obtain ⟨p3, hp3, hw3⟩ := wr_ (v := m3 + 3) (by omega)
  clear hm3 hp1 hp2 hp3 hB ha1
  go_enter Tryz.func9, Tryz.ntmps9
  go_wp2_with fail
  refine (at_any _ _ _ _ l hl a).mono ?_
  rintro e w1 ⟨⟨v, rfl, hv0, hv1⟩, hb1⟩
  obtain ⟨u, hu, hu0, hu1, hu2⟩ := td hv0 hv1 (by omega) 5 (by omega)
  have hsz1 : w.heap.size ≤ w1.heap.size := hb1.size
  go_wp2_with fail
  refine (leaf_any cols G k ⟨hk0, hk1⟩ u hu0 (by omega) _ _ _ _ (hc.below hb1)).mono ?_
  rintro e w9 ⟨⟨es9, ⟨A9, c9, rfl, hst9⟩, hok9⟩, hb9⟩
  have HS9 := hide hst9
  have HO9 := hide hok9
  have bb9 := below_trans hb1 hb9
  clear hst9 hok9 hb9
  go_wp2
  go_ret
  exact ⟨⟨es9, ⟨A9, c9, rfl, ⟨ownsRow_base HS9.out.own hsz1, HS9.out.ok⟩⟩, HO9.out⟩, bb9⟩
set_option maxHeartbeats 4000000 in
set_option maxRecDepth 100000 in
theorem expr_succ (cols : List Col) (G : GoodCols cols) (d : Nat) (hd : d ≤ 4) (IH : ExprAt cols d) : ExprAt cols (d + 1) := by
  intro k hk0 hk1 a ha0 ha1 w A1 n1 c1 hc A n c l hl
  obtain ⟨D, hD⟩ : ∃ D : Int, ((d + 1 : Nat) : Int) = D := ⟨_, rfl⟩
  rw [hD]
  have hD : D = (d : Int) + 1 := by omega
  have hB := atB_le d
  have h7 : atB d = 7 * atB (d + 1) := by
    rw [atB, atB, show 6 - d = (6 - (d + 1)) + 1 by omega, Int.pow_succ]; omega
  obtain ⟨m3, hm3, hw0⟩ := wr_ (v := 3 * a) (by omega)
  obtain ⟨p1, hp1, hw1⟩ := wr_ (v := m3 + 1) (by omega)
  obtain ⟨p2, hp2, hw2⟩ := wr_ (v := m3 + 2) (by omega)
  obtain ⟨p3, hp3, hw3⟩ := wr_ (v := m3 + 3) (by omega)
  have hwd : IntKind.i64.wrap (D - 1) = (d : Int) := by rw [hD, show (d : Int) + 1 - 1 = (d : Int) by omega]; exact IntWalk.i64_in _ (by omega)
  have P1 : Hid (0 ≤ p1 ∧ p1 + 1 ≤ atB d) := hide (by omega)
  have P2 : Hid (0 ≤ p2 ∧ p2 + 1 ≤ atB d) := hide (by omega)
  have P3 : Hid (0 ≤ p3 ∧ p3 + 1 ≤ atB d) := hide (by omega)
  have PL : Hid (2 * p1 + 3 ≤ atB d) := hide (by omega)
  have hD0 : ¬ D ≤ 0 := by omega
  have HD := hide hD
  have HW := hide hwd
  clear hm3 hp1 hp2 hp3 hB ha1 h7 hD
  go_enter Tryz.func9, Tryz.ntmps9
  go_wp2_with fail
  refine (at_any _ _ _ _ l hl a).mono ?_
  rintro e w1 ⟨⟨v, rfl, hv0, hv1⟩, hb1⟩
  obtain ⟨t, ht, ht0, ht1⟩ := tm hv0 5 (by omega)
  obtain ⟨u, hu, hu0, hu1, hu2⟩ := td hv0 hv1 (by omega) 5 (by omega)
  obtain ⟨s, hs, hs0, hs1⟩ := tm hu0 2 (by omega)
  obtain ⟨op, hop, hopw⟩ := wr_ (v := 4 + s) (by omega)
  have ho : Hid (op = 4 ∨ op = 5) := hide (by omega)
  have hsz1 : w.heap.size ≤ w1.heap.size := hb1.size
  clear hop
  by_cases q0 : t = 0
  · subst q0
    go_wp2_with fail
    refine (leaf_any cols G k ⟨hk0, hk1⟩ u hu0 (by omega) _ _ _ _ (hc.below hb1)).mono ?_
    rintro e w9 ⟨⟨es9, ⟨A9, c9, rfl, hst9⟩, hok9⟩, hb9⟩
    have HS9 := hide hst9
    have HO9 := hide hok9
    have bb9 := below_trans hb1 hb9
    clear hst9 hok9 hb9
    go_wp2
    go_ret
    exact ⟨⟨es9, ⟨A9, c9, rfl, ⟨ownsRow_base HS9.out.own hsz1, HS9.out.ok⟩⟩, HO9.out.up⟩, bb9⟩
  by_cases q1 : t = 1
  · subst q1
    go_wp2_with fail
    refine (IH 1 (by omega) (by omega) p1 P1.out.1 P1.out.2 _ _ _ _ (hc.below hb1) _ _ _ l (hl.below hb1)).mono ?_
    rintro e w2 ⟨⟨es2, ⟨A2', c2', rfl, hst2⟩, hok2⟩, hb2⟩
    have HS2 := hide hst2
    have HO2 := hide hok2
    have bb2 := below_trans hb1 hb2
    have L2 := hide hb2
    clear hst2 hok2 hb2
    go_wp2_with fail
    refine (IH k hk0 hk1 p2 P2.out.1 P2.out.2 _ _ _ _ (hc.below bb2) _ _ _ l (hl.below bb2)).mono ?_
    rintro e w3 ⟨⟨es3, ⟨A3', c3', rfl, hst3⟩, hok3⟩, hb3⟩
    have HS3 := hide hst3
    have HO3 := hide hok3
    have bb3 := below_trans bb2 hb3
    have L3 := hide hb3
    clear hst3 hok3 hb3
    go_wp2_with fail
    refine (IH k hk0 hk1 p3 P3.out.1 P3.out.2 _ _ _ _ (hc.below bb3) _ _ _ l (hl.below bb3)).mono ?_
    rintro e w4 ⟨⟨es4, ⟨A4', c4', rfl, hst4⟩, hok4⟩, hb4⟩
    have HS4 := hide hst4
    have HO4 := hide hok4
    have bb4 := below_trans bb3 hb4
    have L4 := hide hb4
    clear hst4 hok4 hb4
    have HL : Hid (∀ x ∈ [es2, es3, es4], x.length ≤ 4096) := hide (by intro x hx; simp only [List.mem_cons, List.mem_nil_iff, or_false] at hx; rcases hx with rfl | rfl | rfl <;> first | exact HO2.out.short hd | exact HO3.out.short hd | exact HO4.out.short hd)
    have HK : Hid (Ok cols k (d + 1) (List.flatten [es2, es3, es4] ++ [opNode 17])) := hide (by have h := ok_if HO2.out HO3.out HO4.out; simpa using h)
    go_wp2_with fail
    refine (applyB_any 17 (by unfold I64; omega) _ _ _ _ [es2, es3, es4] (in_lists3 ((HS2.out.inn.below L3.out).below L4.out) (HS3.out.inn.below L4.out) HS4.out.inn) (by decide) HL.out).mono ?_
    rintro e w9 ⟨hnd, hb9⟩
    obtain ⟨es9, he9⟩ : ∃ q, List.flatten [es2, es3, es4] ++ [opNode 17] = q := ⟨_, rfl⟩
    rw [he9] at hnd HK
    clear he9
    obtain ⟨A9, c9, rfl, hst9⟩ := hnd
    have HS9 := hide hst9
    have bb9 := below_trans (below_trans bb4 below_alloc) hb9
    have hsz := (below_trans bb4 (below_alloc (o := .cells #[] 0))).size
    have hsz1 : w.heap.size ≤ w4.heap.size := bb4.size
    clear hst9 hb9
    go_wp2
    go_ret
    exact ⟨⟨es9, ⟨A9, c9, rfl, ⟨ownsRow_base HS9.out.own (by simp; omega), HS9.out.ok⟩⟩, HK.out⟩, bb9⟩
  by_cases q2 : t = 2
  · subst q2
    go_wp2_with fail
    refine (IH k hk0 hk1 p1 P1.out.1 P1.out.2 _ _ _ _ (hc.below hb1) _ _ _ l (hl.below hb1)).mono ?_
    rintro e w2 ⟨⟨es2, ⟨A2', c2', rfl, hst2⟩, hok2⟩, hb2⟩
    have HS2 := hide hst2
    have HO2 := hide hok2
    have bb2 := below_trans hb1 hb2
    have L2 := hide hb2
    clear hst2 hok2 hb2
    go_wp2_with fail
    refine (IH k hk0 hk1 p2 P2.out.1 P2.out.2 _ _ _ _ (hc.below bb2) _ _ _ l (hl.below bb2)).mono ?_
    rintro e w3 ⟨⟨es3, ⟨A3', c3', rfl, hst3⟩, hok3⟩, hb3⟩
    have HS3 := hide hst3
    have HO3 := hide hok3
    have bb3 := below_trans bb2 hb3
    have L3 := hide hb3
    clear hst3 hok3 hb3
    have HL : Hid (∀ x ∈ [es2, es3], x.length ≤ 4096) := hide (by intro x hx; simp only [List.mem_cons, List.mem_nil_iff, or_false] at hx; rcases hx with rfl | rfl <;> first | exact HO2.out.short hd | exact HO3.out.short hd)
    have HK : Hid (Ok cols k (d + 1) (List.flatten [es2, es3] ++ [opNode 18])) := hide (by have h := ok_bin G HO2.out HO3.out hd (.inr (.inr (.inl ⟨rfl, rfl⟩))); simpa using h)
    go_wp2_with fail
    refine (applyB_any 18 (by unfold I64; omega) _ _ _ _ [es2, es3] (in_lists2 (HS2.out.inn.below L3.out) HS3.out.inn) (by decide) HL.out).mono ?_
    rintro e w9 ⟨hnd, hb9⟩
    obtain ⟨es9, he9⟩ : ∃ q, List.flatten [es2, es3] ++ [opNode 18] = q := ⟨_, rfl⟩
    rw [he9] at hnd HK
    clear he9
    obtain ⟨A9, c9, rfl, hst9⟩ := hnd
    have HS9 := hide hst9
    have bb9 := below_trans (below_trans bb3 below_alloc) hb9
    have hsz := (below_trans bb3 (below_alloc (o := .cells #[] 0))).size
    have hsz1 : w.heap.size ≤ w3.heap.size := bb3.size
    clear hst9 hb9
    go_wp2
    go_ret
    exact ⟨⟨es9, ⟨A9, c9, rfl, ⟨ownsRow_base HS9.out.own (by simp; omega), HS9.out.ok⟩⟩, HK.out⟩, bb9⟩
  have z0 : (t == 0) = false := by simpa using q0
  have z1 : (t == 1) = false := by simpa using q1
  have z2 : (t == 2) = false := by simpa using q2
  obtain rfl | rfl | rfl | rfl : k = 1 ∨ k = 2 ∨ k = 3 ∨ k = 4 := by omega
  · have hk0 : True := trivial
    go_wp2_with fail
    refine (logical_any cols G d hd IH D HD.out p1 P1.out.1 PL.out _ _ _ _ (hc.below hb1) _ _ _ l (hl.below hb1)).mono ?_
    rintro e w9 ⟨⟨es9, ⟨A9, c9, rfl, hst9⟩, hok9⟩, hb9⟩
    have HS9 := hide hst9
    have HO9 := hide hok9
    have bb9 := below_trans hb1 hb9
    clear hst9 hok9 hb9
    go_wp2
    go_ret
    exact ⟨⟨es9, ⟨A9, c9, rfl, ⟨ownsRow_base HS9.out.own hsz1, HS9.out.ok⟩⟩, HO9.out⟩, bb9⟩
  · have hk0 : True := trivial
    go_wp2_with fail
    refine (numeric_any cols G d hd IH D HD.out p1 P1.out.1 PL.out _ _ _ _ (hc.below hb1) _ _ _ l (hl.below hb1)).mono ?_
    rintro e w9 ⟨⟨es9, ⟨A9, c9, rfl, hst9⟩, hok9⟩, hb9⟩
    have HS9 := hide hst9
    have HO9 := hide hok9
    have bb9 := below_trans hb1 hb9
    clear hst9 hok9 hb9
    go_wp2
    go_ret
    exact ⟨⟨es9, ⟨A9, c9, rfl, ⟨ownsRow_base HS9.out.own hsz1, HS9.out.ok⟩⟩, HO9.out⟩, bb9⟩
  · have hk0 : True := trivial
    go_wp2_with fail
    refine (IH 3 (by omega) (by omega) p1 P1.out.1 P1.out.2 _ _ _ _ (hc.below hb1) _ _ _ l (hl.below hb1)).mono ?_
    rintro e w2 ⟨⟨es2, ⟨A2', c2', rfl, hst2⟩, hok2⟩, hb2⟩
    have HS2 := hide hst2
    have HO2 := hide hok2
    have bb2 := below_trans hb1 hb2
    have L2 := hide hb2
    clear hst2 hok2 hb2
    go_wp2_with fail
    refine (IH 3 (by omega) (by omega) p2 P2.out.1 P2.out.2 _ _ _ _ (hc.below bb2) _ _ _ l (hl.below bb2)).mono ?_
    rintro e w3 ⟨⟨es3, ⟨A3', c3', rfl, hst3⟩, hok3⟩, hb3⟩
    have HS3 := hide hst3
    have HO3 := hide hok3
    have bb3 := below_trans bb2 hb3
    have L3 := hide hb3
    clear hst3 hok3 hb3
    have HL : Hid (∀ x ∈ [es2, es3], x.length ≤ 4096) := hide (by intro x hx; simp only [List.mem_cons, List.mem_nil_iff, or_false] at hx; rcases hx with rfl | rfl <;> first | exact HO2.out.short hd | exact HO3.out.short hd)
    have HK : Hid (Ok cols 3 (d + 1) (List.flatten [es2, es3] ++ [opNode 9])) := hide (by have h := ok_bin G HO2.out HO3.out hd (.inr (.inr (.inr (.inl ⟨rfl, rfl, rfl⟩)))); simpa using h)
    go_wp2_with fail
    refine (applyB_any 9 (by unfold I64; omega) _ _ _ _ [es2, es3] (in_lists2 (HS2.out.inn.below L3.out) HS3.out.inn) (by decide) HL.out).mono ?_
    rintro e w9 ⟨hnd, hb9⟩
    obtain ⟨es9, he9⟩ : ∃ q, List.flatten [es2, es3] ++ [opNode 9] = q := ⟨_, rfl⟩
    rw [he9] at hnd HK
    clear he9
    obtain ⟨A9, c9, rfl, hst9⟩ := hnd
    have HS9 := hide hst9
    have bb9 := below_trans (below_trans bb3 below_alloc) hb9
    have hsz := (below_trans bb3 (below_alloc (o := .cells #[] 0))).size
    have hsz1 : w.heap.size ≤ w3.heap.size := bb3.size
    clear hst9 hb9
    go_wp2
    go_ret
    exact ⟨⟨es9, ⟨A9, c9, rfl, ⟨ownsRow_base HS9.out.own (by simp; omega), HS9.out.ok⟩⟩, HK.out⟩, bb9⟩
  · have hk0 : True := trivial
    go_wp2_with fail
    refine (IH 4 (by omega) (by omega) p1 P1.out.1 P1.out.2 _ _ _ _ (hc.below hb1) _ _ _ l (hl.below hb1)).mono ?_
    rintro e w2 ⟨⟨es2, ⟨A2', c2', rfl, hst2⟩, hok2⟩, hb2⟩
    have HS2 := hide hst2
    have HO2 := hide hok2
    have bb2 := below_trans hb1 hb2
    have L2 := hide hb2
    clear hst2 hok2 hb2
    go_wp2_with fail
    refine (unknown_any _ _ _ _ es2 HS2.out.inn _ _ _ cols (hc.below bb2)).mono ?_
    rintro e w4 ⟨rfl, hb4⟩
    have L4 := hide hb4
    have bb4 := below_trans bb2 hb4
    clear hb4
    cases hun : unk es2 cols
    · have HU := hide hun
      clear hun
      go_wp2_with fail
      refine (IH 2 (by omega) (by omega) p2 P2.out.1 P2.out.2 _ _ _ _ (hc.below bb4) _ _ _ l (hl.below bb4)).mono ?_
      rintro e w3 ⟨⟨es3, ⟨A3', c3', rfl, hst3⟩, hok3⟩, hb3⟩
      have HS3 := hide hst3
      have HO3 := hide hok3
      have bb3 := below_trans bb4 hb3
      have L3 := hide hb3
      clear hst3 hok3 hb3
      have HL : Hid (∀ x ∈ [es2, es3], x.length ≤ 4096) := hide (by intro x hx; simp only [List.mem_cons, List.mem_nil_iff, or_false] at hx; rcases hx with rfl | rfl <;> first | exact HO2.out.short hd | exact HO3.out.short hd)
      have HK : Hid (Ok cols 4 (d + 1) (List.flatten [es2, es3] ++ [opNode op])) := hide (by have h := ok_time G HO2.out HO3.out hd ho.out (by have h := HU.out; rw [unk] at h; simpa using h); simpa using h)
      go_wp2_with fail
      refine (applyB_any op (by have := ho.out; unfold I64; omega) _ _ _ _ [es2, es3] (in_lists2 ((HS2.out.inn.below L4.out).below L3.out) HS3.out.inn) (by decide) HL.out).mono ?_
      rintro e w9 ⟨hnd, hb9⟩
      obtain ⟨es9, he9⟩ : ∃ q, List.flatten [es2, es3] ++ [opNode op] = q := ⟨_, rfl⟩
      rw [he9] at hnd HK
      clear he9
      obtain ⟨A9, c9, rfl, hst9⟩ := hnd
      have HS9 := hide hst9
      have bb9 := below_trans (below_trans bb3 below_alloc) hb9
      have hsz := (below_trans bb3 (below_alloc (o := .cells #[] 0))).size
      have hsz1 : w.heap.size ≤ w3.heap.size := bb3.size
      clear hst9 hb9
      go_wp2
      go_ret
      exact ⟨⟨es9, ⟨A9, c9, rfl, ⟨ownsRow_base HS9.out.own (by simp; omega), HS9.out.ok⟩⟩, HK.out⟩, bb9⟩
    · clear hun
      have hst2 := HS2.out.keep L4.out
      have HS4 := hide hst2
      clear hst2
      go_wp2
      go_ret
      exact ⟨⟨es2, ⟨A2', c2', rfl, ⟨ownsRow_base HS4.out.own hsz1, HS4.out.ok⟩⟩, HO2.out.mono⟩, bb4⟩
theorem expr_at (cols : List Col) (G : GoodCols cols) : ∀ d, d ≤ 5 → ExprAt cols d
  | 0, _ => expr_zero cols G
  | d + 1, h => expr_succ cols G d (by omega) (expr_at cols G d (by omega))
end Go.Proofs.YtmnhahilbbnkkaaGreatDoor
