/-
  warehouselaw9.leaf, ScalarChecks: it returns true. warehouselaw9.ScalarOrder: it returns true. (Printed by gen_lw.py.)
-/
import Derived.Test.YtmnhahilbbnkkaaDoorLawD
import Derived.Test.YtmnhahilbbnkkaaDoorGah
namespace Go.Proofs.YtmnhahilbbnkkaaDoor
open Go.RowKit
set_option linter.unusedSimpArgs false
set_option linter.unusedVariables false

theorem tm9 {v : Int} (h : 0 ≤ v) (m : Int) (hm : 0 < m) : ∃ t, v.tmod m = t ∧ 0 ≤ t ∧ t < m := ⟨_, rfl, by rw [Int.tmod_eq_emod_of_nonneg h]; exact Int.emod_nonneg _ (by omega), by rw [Int.tmod_eq_emod_of_nonneg h]; exact Int.emod_lt_of_pos _ hm⟩
theorem anyV_any (n : Int) (hn : 0 ≤ n) (hn2 : n ≤ 1000000) (w : World) :
    Calls Tryd.prog 16 #[.int .i64 n] w fun e w' => (∃ v : Val, e = .returned (.agg v.cells.toArray) ∧ v.ok) ∧ Below w.heap.size w w' := by
  obtain ⟨t, ht, ht0, ht1⟩ := tm9 hn 5 (by omega)
  obtain ⟨u, hu, hu0, hu1⟩ : ∃ u, n.tdiv 5 = u ∧ 0 ≤ u ∧ u ≤ 1000000 := ⟨_, rfl, by rw [Int.tdiv_eq_ediv_of_nonneg hn]; omega, by rw [Int.tdiv_eq_ediv_of_nonneg hn]; omega⟩
  have huw : IntKind.i64.wrap u = u := IntWalk.i64_in _ (by omega)
  go_enter Tryd.func16, Tryd.ntmps16
  go_wp2_with fail
  refine (value_any _ t u).mono ?_
  rintro e w1 ⟨⟨v, rfl, hv⟩, hb1⟩
  have Z := hide ((Zr.made w 27).below hb1)
  have hbb := below_trans below_alloc hb1
  have HV := hide hv
  obtain ⟨vk, vn, vs⟩ := v
  obtain ⟨z0, z1, z2, f0, f1, f2, _⟩ := Z.out
  clear hb1 hv
  simp only [Val.cells]
  go_wp2
  refine bodyPost_ret (v := .agg (Val.cells ⟨vk, vn, vs⟩).toArray) (results_cells (cs := Val.cells ⟨vk, vn, vs⟩) rfl _ _ w.heap.size _ rfl (set_three Z.out.c0 Z.out.c1 Z.out.c2) Tryd.underlying27 rfl (by kernel_rfl)) rfl ⟨⟨⟨vk, vn, vs⟩, rfl, HV.out.2.1⟩, below_set3 hbb (Nat.le_refl _) _ _ _⟩
theorem col_ok9 {c : Col} (h : c.ok) : (colNode c.name).ok := ⟨by simp [colNode, I64], ⟨by simp [colNode, nullV, I64], by simp [colNode, nullV, I64], by simp [colNode, nullV, Str, ByteArray.size]⟩, h.1, by simp [colNode, I64]⟩
set_option maxRecDepth 100000 in
theorem leaf9_any (m : Int) (w : World) : Calls Tryd.prog 5 #[.int .i64 m] w fun e w' => (∃ x : Node, Nds w w' e [x]) ∧ Below w.heap.size w w' := by
  obtain ⟨v1, hv1, hv10, hv11⟩ := and_ex m 1 (by omega)
  have hv1' : bits BinOp.and IntKind.i64 m 1 = v1 := hv1
  obtain ⟨v2, hv2, hv20, hv21⟩ := and_ex (m / 2) 7 (by omega)
  have hv2' : bits BinOp.and IntKind.i64 (m / 2) 7 = v2 := hv2
  obtain ⟨q, hq, hq0, hq1⟩ := tm9 hv20 5 (by omega)
  obtain ⟨j, rfl⟩ := Int.eq_ofNat_of_zero_le hq0
  have hj : j < 5 := by omega
  obtain ⟨v3, hv3, hv30, hv31⟩ := and_ex (m / 2) 255 (by omega)
  have hv3' : bits BinOp.and IntKind.i64 (m / 2) 255 = v3 := hv3
  clear hv1 hv2 hv3
  go_enter Tryd.func5, Tryd.ntmps5
  by_cases h1 : v1 = 1
  · go_wp2_with fail
    refine (columns_any _).mono ?_
    rintro e w1 ⟨⟨rfl, hc1⟩, hb1⟩
    obtain ⟨b, off, x, e9, hB, HX, f0, _, _, hok⟩ := hc1.col hj
    injection e9 with e9
    injection e9 with e91 e92
    subst e91 e92
    simp only [Nat.zero_add] at f0
    have HOK := hide hok
    clear hok HX hc1
    go_wp2
    go_ret
    have h := Stk.at_ (B := w.heap.size) (heap_alloc_new w1 (.cells #[.int .i64 1, .int .i64 0, .int .i64 0, .string ⟨#[]⟩, .string x.name, .int .i64 0] 29)) (xs := [colNode x.name]) rfl (by intro y hy; simp at hy; subst hy; exact col_ok9 HOK.out) hb1.size (n := 1) rfl (by omega)
    exact ⟨⟨colNode x.name, _, 1, rfl, h⟩, below_trans hb1 below_alloc⟩
  · have h2 : (v1 == 1) = false := by simpa using h1
    go_wp2_with fail
    refine (anyV_any v3 hv30 (by omega) _).mono ?_
    rintro e w1 ⟨⟨v, rfl, hv⟩, hb1⟩
    have HV := hide hv
    clear hv
    go_wp2_with fail
    refine (constant_any v HV.out _).mono ?_
    rintro e w2 ⟨⟨A, c, rfl, hst⟩, hb2⟩
    have HS := hide hst
    have hsz := hb1.size
    clear hst
    simp only [List.length_singleton]
    go_wp2
    go_ret
    exact ⟨⟨conNode v, A, c, rfl, ⟨ownsRow_base HS.out.own hsz, HS.out.ok⟩⟩, below_trans hb1 hb2⟩
theorem node1_in (W : World) (x : Node) (hx : x.ok) : In (W.alloc (.cells #[.int .i64 x.op, .int .i64 x.value.kind, .int .i64 x.value.num, .string x.value.str, .string x.name, .int .i64 x.arity] 29)) (some ⟨W.heap.size, 0, none⟩) 1 1 [x] :=
  (Stk.at_ (n := 1) (B := 0) (xs := [x]) (heap_alloc_new W _) rfl (by intro y hy; simp at hy; subst hy; exact hx) (Nat.zero_le _) rfl (by omega)).inn
theorem arity_op {op : Int} (h : 2 ≤ op ∧ op ≤ 20) : (arity op 0 = 1) ∨ (arity op 0 = 2 ∧ ¬ op = 20) ∨ (arity op 0 = 3 ∧ ¬ op = 20) := by
  rw [arity, if_neg (by omega)]
  split
  · exact .inl rfl
  · split
    · exact .inr (.inr ⟨rfl, by omega⟩)
    · rw [if_neg (by omega), if_pos (by omega)]
      exact .inr (.inl ⟨rfl, by omega⟩)
set_option maxHeartbeats 8000000 in
set_option maxRecDepth 100000 in
theorem lawChecks_any (w : World) (hw : Words w) (m1 m2 m3 : Int) :
    Calls Tryd.prog 3 #[.int .i64 m1, .int .i64 m2, .int .i64 m3] w fun e w' => e = .returned (.bool true) ∧ Below w.heap.size w w' := by
  obtain ⟨i0, hi, hz0, hz1, hz2⟩ := info_parts node_info
  obtain ⟨v1, hv1, hv10, hv11⟩ := and_ex (m1 / 512) 31 (by omega)
  have hv1' : bits BinOp.and IntKind.i64 (m1 / 512) 31 = v1 := hv1
  obtain ⟨t, ht, ht0, ht1⟩ := tm9 hv10 19 (by omega)
  obtain ⟨op, hop, hopw⟩ : ∃ p, 2 + t = p ∧ IntKind.i64.wrap (2 + t) = p := ⟨_, rfl, IntWalk.i64_in _ (by omega)⟩
  have hop2 : 2 ≤ op ∧ op ≤ 20 := by omega
  have HAR := hide (arity_op hop2)
  have HOI : Hid (I64 op) := hide (by unfold I64; omega)
  clear hop hv1 hop2
  go_enter Tryd.func3, Tryd.ntmps3
  go_wp2_with fail
  refine (leaf9_any m1 _).mono ?_
  rintro e w1 ⟨⟨x1, A1, c1, rfl, hst1⟩, hb1⟩
  have N1 := hide hst1.inn
  clear hst1
  simp only [List.length_singleton] at N1 ⊢
  go_wp2_with fail
  refine (leaf9_any m2 _).mono ?_
  rintro e w2 ⟨⟨x2, A2, c2, rfl, hst2⟩, hb2⟩
  have N1 := hide (N1.out.below hb2)
  have N2 := hide hst2.inn
  have bb2 := below_trans hb1 hb2
  clear hst2 hb1 hb2
  simp only [List.length_singleton] at N2 ⊢
  go_wp2_with fail
  refine (leaf9_any m3 _).mono ?_
  rintro e w3 ⟨⟨x3, A3, c3, rfl, hst3⟩, hb3⟩
  have N1 := hide (N1.out.below hb3)
  have N2 := hide (N2.out.below hb3)
  have N3 := hide hst3.inn
  have bb3 := below_trans bb2 hb3
  clear hst3 hb3 bb2
  simp only [List.length_singleton] at N3 ⊢
  have h3 := bb3.size
  go_wp2_with (at_builtin; refine wpList_cat (α := Node) _ rfl (.const (.slice none 0 0)) (.tmp 24) 22 rfl w3.heap.size 29 i0 _ 64 Tryd.underlying22 hi hz0 hz1 hz2 rfl (by decide) none 0 0 [] (Stk.nil_ _ _ _) rfl rfl A1 1 c1 [x1] N1.out rfl (by omega) (Nat.le_refl _) ?_; intro A4 c4 w4 hst4 hb4 hf4 hs4; rw [List.nil_append] at hst4)
  have S4 := hide hst4
  have AR := hide (arity_ref (opNode op) w4)
  refine AR.out.mono ?_
  rintro e w5 ⟨rfl, hb5⟩
  have bb5 : Below w3.heap.size w3 w5 := hb4.trans (hb5.mono hb4.size)
  have S5 := hide (S4.out.keep hb5)
  have I2 := hide (N2.out.below bb5)
  have I3 := hide (N3.out.below bb5)
  have h5 := bb5.size
  clear hst4 hb4 hf4 hs4 hb5 N1 AR S4
  show _
  rcases HAR.out with e1 | ⟨e1, e20⟩ | ⟨e1, e20⟩
  · rw [show arity (opNode op).op (opNode op).arity = 1 from e1]
    clear e1
    by_cases e20 : op = 20
    · have E20 := hide e20
      subst e20
      have hN : Hid (In ((w5.alloc (.cells #[.int .i64 20, .int .i64 0, .int .i64 0, .string ⟨#[]⟩, .string ⟨#[122, 48]⟩, .int .i64 0] 29)).alloc (.cells #[.int .i64 20, .int .i64 0, .int .i64 0, .string ⟨#[]⟩, .string ⟨#[122, 48]⟩, .int .i64 0] 29)) (some ⟨w5.heap.size + 1, 0, none⟩) 1 1 [dayNode 0]) := hide (by have h := node1_in (w5.alloc (.cells #[.int .i64 20, .int .i64 0, .int .i64 0, .string ⟨#[]⟩, .string ⟨#[122, 48]⟩, .int .i64 0] 29)) (dayNode 0) ⟨by simp [dayNode, I64], ⟨by simp [dayNode, nullV, I64], by simp [dayNode, nullV, I64], by simp [dayNode, nullV, Str, ByteArray.size]⟩, by simp [dayNode, zname, Str, ByteArray.size], by simp [dayNode, I64]⟩; simpa [opNode, dayNode, zname, nullV] using h)
      have hsW := bb5.size
      go_wp2_with (at_builtin; refine wpList_cat (α := Node) _ rfl (.tmp 46) (.tmp 48) 22 rfl w3.heap.size 29 i0 _ 64 Tryd.underlying22 hi hz0 hz1 hz2 rfl (by decide) A4 1 c4 [x1] (S5.out.keep below_alloc2) rfl rfl (some ⟨w5.heap.size + 1, 0, none⟩) 1 1 [dayNode 0] hN.out rfl (by omega) (by simp; omega) ?_; intro A9 c9 w9 hst9 hb9 _ hs9)
      have bb9 := bb3.trans ((((bb5.alloc hsW _).alloc (by simp; omega) _).trans hb9).mono bb3.size)
      have N9 := hide hst9.inn
      clear hst9 hb9 hs9 hN
      go_wp2_with fail
      refine (columns_any _).mono ?_
      rintro e w10 ⟨⟨rfl, hc10⟩, hb10⟩
      have N9 := hide (N9.out.below hb10)
      have C10 := hide hc10
      have bb10 := below_trans bb9 hb10
      clear hb10 hc10 bb9
      go_wp2_with fail
      refine (zones_any _).mono ?_
      rintro e w11 ⟨⟨g11, rfl, hz11⟩, hb11⟩
      have N9 := hide (N9.out.below hb11)
      have C10 := hide (C10.out.below hb11)
      have Z11 := hide hz11
      have bb11 := below_trans bb10 hb11
      clear hb11 hz11 bb10
      go_wp2_with fail
      refine (types_any _ _ _ _ ([x1] ++ [dayNode 0]) N9.out (hw.below bb11) _ _ _ cols5 C10.out _ _ _ zs3 Z11.out).mono ?_
      rintro e w12 ⟨rfl, hb12⟩
      have bb12 := below_trans bb11 hb12
      go_wp2_with fail
      refine (known_any _ (hw.below bb12)).mono ?_
      rintro e w13 ⟨rfl, hb13⟩
      go_wp2
      go_ret
      exact ⟨rfl, below_trans bb12 hb13⟩
    · have q20 : (op == 20) = false := by simpa using e20
      have hN : Hid (In ((w5.alloc (.cells #[.int .i64 op, .int .i64 0, .int .i64 0, .string ⟨#[]⟩, .string ⟨#[]⟩, .int .i64 0] 29)).alloc (.cells #[.int .i64 op, .int .i64 0, .int .i64 0, .string ⟨#[]⟩, .string ⟨#[]⟩, .int .i64 0] 29)) (some ⟨w5.heap.size + 1, 0, none⟩) 1 1 [opNode op]) := hide (by have h := node1_in (w5.alloc (.cells #[.int .i64 op, .int .i64 0, .int .i64 0, .string ⟨#[]⟩, .string ⟨#[]⟩, .int .i64 0] 29)) (opNode op) (opNode_ok HOI.out); simpa [opNode, dayNode, zname, nullV] using h)
      have hsW := bb5.size
      go_wp2_with (at_builtin; refine wpList_cat (α := Node) _ rfl (.tmp 46) (.tmp 48) 22 rfl w3.heap.size 29 i0 _ 64 Tryd.underlying22 hi hz0 hz1 hz2 rfl (by decide) A4 1 c4 [x1] (S5.out.keep below_alloc2) rfl rfl (some ⟨w5.heap.size + 1, 0, none⟩) 1 1 [opNode op] hN.out rfl (by omega) (by simp; omega) ?_; intro A9 c9 w9 hst9 hb9 _ hs9)
      have bb9 := bb3.trans ((((bb5.alloc hsW _).alloc (by simp; omega) _).trans hb9).mono bb3.size)
      have N9 := hide hst9.inn
      clear hst9 hb9 hs9 hN
      go_wp2_with fail
      refine (columns_any _).mono ?_
      rintro e w10 ⟨⟨rfl, hc10⟩, hb10⟩
      have N9 := hide (N9.out.below hb10)
      have C10 := hide hc10
      have bb10 := below_trans bb9 hb10
      clear hb10 hc10 bb9
      go_wp2_with fail
      refine (zones_any _).mono ?_
      rintro e w11 ⟨⟨g11, rfl, hz11⟩, hb11⟩
      have N9 := hide (N9.out.below hb11)
      have C10 := hide (C10.out.below hb11)
      have Z11 := hide hz11
      have bb11 := below_trans bb10 hb11
      clear hb11 hz11 bb10
      go_wp2_with fail
      refine (types_any _ _ _ _ ([x1] ++ [opNode op]) N9.out (hw.below bb11) _ _ _ cols5 C10.out _ _ _ zs3 Z11.out).mono ?_
      rintro e w12 ⟨rfl, hb12⟩
      have bb12 := below_trans bb11 hb12
      go_wp2_with fail
      refine (known_any _ (hw.below bb12)).mono ?_
      rintro e w13 ⟨rfl, hb13⟩
      go_wp2
      go_ret
      exact ⟨rfl, below_trans bb12 hb13⟩
  · rw [show arity (opNode op).op (opNode op).arity = 2 from e1]
    clear e1
    have q20 : (op == 20) = false := by simpa using e20
    go_upto_region 9 with (at_builtin; refine wpList_cat (α := Node) _ rfl (.tmp 31) (.tmp 32) 22 rfl w3.heap.size 29 i0 _ 64 Tryd.underlying22 hi hz0 hz1 hz2 rfl (by decide) A4 1 c4 [x1] S5.out rfl rfl A2 1 c2 [x2] I2.out rfl (by omega) h5 ?_; intro A6 c6 w6 hst6 hb6 hf6 hs6)
    have S6 := hide hst6
    have bb6 := bb5.trans hb6
    clear hst6 hb6 hf6 hs6
    have hN : Hid (In ((w6.alloc (.cells #[.int .i64 op, .int .i64 0, .int .i64 0, .string ⟨#[]⟩, .string ⟨#[]⟩, .int .i64 0] 29)).alloc (.cells #[.int .i64 op, .int .i64 0, .int .i64 0, .string ⟨#[]⟩, .string ⟨#[]⟩, .int .i64 0] 29)) (some ⟨w6.heap.size + 1, 0, none⟩) 1 1 [opNode op]) := hide (by have h := node1_in (w6.alloc (.cells #[.int .i64 op, .int .i64 0, .int .i64 0, .string ⟨#[]⟩, .string ⟨#[]⟩, .int .i64 0] 29)) (opNode op) (opNode_ok HOI.out); simpa [opNode, dayNode, zname, nullV] using h)
    have hsW := bb6.size
    go_wp2_with (at_builtin; refine wpList_cat (α := Node) _ rfl (.tmp 46) (.tmp 48) 22 rfl w3.heap.size 29 i0 _ 64 Tryd.underlying22 hi hz0 hz1 hz2 rfl (by decide) A6 2 c6 ([x1] ++ [x2]) (S6.out.keep below_alloc2) rfl rfl (some ⟨w6.heap.size + 1, 0, none⟩) 1 1 [opNode op] hN.out rfl (by omega) (by simp; omega) ?_; intro A9 c9 w9 hst9 hb9 _ hs9)
    have bb9 := bb3.trans ((((bb6.alloc hsW _).alloc (by simp; omega) _).trans hb9).mono bb3.size)
    have N9 := hide hst9.inn
    clear hst9 hb9 hs9 hN
    go_wp2_with fail
    refine (columns_any _).mono ?_
    rintro e w10 ⟨⟨rfl, hc10⟩, hb10⟩
    have N9 := hide (N9.out.below hb10)
    have C10 := hide hc10
    have bb10 := below_trans bb9 hb10
    clear hb10 hc10 bb9
    go_wp2_with fail
    refine (zones_any _).mono ?_
    rintro e w11 ⟨⟨g11, rfl, hz11⟩, hb11⟩
    have N9 := hide (N9.out.below hb11)
    have C10 := hide (C10.out.below hb11)
    have Z11 := hide hz11
    have bb11 := below_trans bb10 hb11
    clear hb11 hz11 bb10
    go_wp2_with fail
    refine (types_any _ _ _ _ (([x1] ++ [x2]) ++ [opNode op]) N9.out (hw.below bb11) _ _ _ cols5 C10.out _ _ _ zs3 Z11.out).mono ?_
    rintro e w12 ⟨rfl, hb12⟩
    have bb12 := below_trans bb11 hb12
    go_wp2_with fail
    refine (known_any _ (hw.below bb12)).mono ?_
    rintro e w13 ⟨rfl, hb13⟩
    go_wp2
    go_ret
    exact ⟨rfl, below_trans bb12 hb13⟩
  · rw [show arity (opNode op).op (opNode op).arity = 3 from e1]
    clear e1
    have q20 : (op == 20) = false := by simpa using e20
    go_upto_region 9 with (first
      | (at_builtin; refine wpList_cat (α := Node) _ rfl (.tmp 36) (.tmp 37) 22 rfl w3.heap.size 29 i0 _ 64 Tryd.underlying22 hi hz0 hz1 hz2 rfl (by decide) A4 1 c4 [x1] S5.out rfl rfl A2 1 c2 [x2] I2.out rfl (by omega) h5 ?_; intro A6 c6 w6 hst6 hb6 hf6 hs6)
      | (at_builtin; refine wpList_cat (α := Node) _ rfl (.tmp 38) (.tmp 39) 22 rfl w3.heap.size 29 i0 _ 64 Tryd.underlying22 hi hz0 hz1 hz2 rfl (by decide) A6 2 c6 ([x1] ++ [x2]) hst6 rfl rfl A3 1 c3 [x3] (N3.out.below (bb5.trans hb6)) rfl (by omega) (Nat.le_trans h5 hs6) ?_; intro A7 c7 w7 hst7 hb7 hf7 hs7))
    have S7 := hide hst7
    have bb7 := (bb5.trans hb6).trans hb7
    clear hst6 hb6 hf6 hs6 hst7 hb7 hf7 hs7
    have hN : Hid (In ((w7.alloc (.cells #[.int .i64 op, .int .i64 0, .int .i64 0, .string ⟨#[]⟩, .string ⟨#[]⟩, .int .i64 0] 29)).alloc (.cells #[.int .i64 op, .int .i64 0, .int .i64 0, .string ⟨#[]⟩, .string ⟨#[]⟩, .int .i64 0] 29)) (some ⟨w7.heap.size + 1, 0, none⟩) 1 1 [opNode op]) := hide (by have h := node1_in (w7.alloc (.cells #[.int .i64 op, .int .i64 0, .int .i64 0, .string ⟨#[]⟩, .string ⟨#[]⟩, .int .i64 0] 29)) (opNode op) (opNode_ok HOI.out); simpa [opNode, dayNode, zname, nullV] using h)
    have hsW := bb7.size
    go_wp2_with (at_builtin; refine wpList_cat (α := Node) _ rfl (.tmp 46) (.tmp 48) 22 rfl w3.heap.size 29 i0 _ 64 Tryd.underlying22 hi hz0 hz1 hz2 rfl (by decide) A7 3 c7 (([x1] ++ [x2]) ++ [x3]) (S7.out.keep below_alloc2) rfl rfl (some ⟨w7.heap.size + 1, 0, none⟩) 1 1 [opNode op] hN.out rfl (by omega) (by simp; omega) ?_; intro A9 c9 w9 hst9 hb9 _ hs9)
    have bb9 := bb3.trans ((((bb7.alloc hsW _).alloc (by simp; omega) _).trans hb9).mono bb3.size)
    have N9 := hide hst9.inn
    clear hst9 hb9 hs9 hN
    go_wp2_with fail
    refine (columns_any _).mono ?_
    rintro e w10 ⟨⟨rfl, hc10⟩, hb10⟩
    have N9 := hide (N9.out.below hb10)
    have C10 := hide hc10
    have bb10 := below_trans bb9 hb10
    clear hb10 hc10 bb9
    go_wp2_with fail
    refine (zones_any _).mono ?_
    rintro e w11 ⟨⟨g11, rfl, hz11⟩, hb11⟩
    have N9 := hide (N9.out.below hb11)
    have C10 := hide (C10.out.below hb11)
    have Z11 := hide hz11
    have bb11 := below_trans bb10 hb11
    clear hb11 hz11 bb10
    go_wp2_with fail
    refine (types_any _ _ _ _ ((([x1] ++ [x2]) ++ [x3]) ++ [opNode op]) N9.out (hw.below bb11) _ _ _ cols5 C10.out _ _ _ zs3 Z11.out).mono ?_
    rintro e w12 ⟨rfl, hb12⟩
    have bb12 := below_trans bb11 hb12
    go_wp2_with fail
    refine (known_any _ (hw.below bb12)).mono ?_
    rintro e w13 ⟨rfl, hb13⟩
    go_wp2
    go_ret
    exact ⟨rfl, below_trans bb12 hb13⟩
end Go.Proofs.YtmnhahilbbnkkaaDoor

namespace Go.Proofs.YtmnhahilbbnkkaaDoor
open Go.RowKit
set_option linter.unusedSimpArgs false
set_option linter.unusedVariables false

theorem pick3 {x y z : Bool} (h : x.toNat + y.toNat + z.toNat = 1) : (x = true ∧ y = false ∧ z = false) ∨ (x = false ∧ y = true ∧ z = false) ∨ (x = false ∧ y = false ∧ z = true) := by
  cases x <;> cases y <;> cases z <;> simp at h ⊢
set_option maxHeartbeats 8000000 in
set_option maxRecDepth 100000 in
theorem lawOrder_any (w : World) (hw : Words w) (kind m1 m2 : Int) :
    Calls Tryd.prog 4 #[.int .i64 kind, .int .i64 m1, .int .i64 m2] w fun e w' => e = .returned (.bool true) ∧ Below w.heap.size w w' := by
  obtain ⟨v1, hv1, hv10, hv11⟩ := and_ex kind 3 (by omega)
  have hv1' : bits BinOp.and IntKind.i64 kind 3 = v1 := hv1
  obtain ⟨kd, hkd, hkw⟩ : ∃ p, 1 + v1 = p ∧ IntKind.i64.wrap (1 + v1) = p := ⟨_, rfl, IntWalk.i64_in _ (by omega)⟩
  have hk0 : 1 ≤ kd := by omega
  have hk1 : kd ≤ 4 := by omega
  clear hkd hv1
  go_enter Tryd.func4, Tryd.ntmps4
  go_wp2_with fail
  refine (value_any _ kd m1).mono ?_
  rintro e w1 ⟨⟨a, rfl, hmade⟩, hb1⟩
  have M_a := hide hmade
  clear hmade
  have bb_w1 := hb1
  clear hb1
  go_wp2_with fail
  refine (constant_any a M_a.out.2.1 _).mono ?_
  rintro e w2 ⟨hnd, hb2⟩
  obtain ⟨Ea, h_Ea⟩ : ∃ q, [conNode a] = q := ⟨_, rfl⟩
  rw [h_Ea] at hnd
  obtain ⟨A_Ea, c_Ea, rfl, hst⟩ := hnd
  have E_Ea := hide h_Ea
  have N_Ea := hide hst.inn
  clear h_Ea hst
  have bb_w2 := below_trans bb_w1 hb2
  clear hb2 bb_w1
  go_wp2_with fail
  refine (value_any _ kd m2).mono ?_
  rintro e w3 ⟨⟨b, rfl, hmade⟩, hb3⟩
  have M_b := hide hmade
  clear hmade
  have N_Ea := hide (N_Ea.out.below hb3)
  have bb_w3 := below_trans bb_w2 hb3
  clear hb3 bb_w2
  go_wp2_with fail
  refine (constant_any b M_b.out.2.1 _).mono ?_
  rintro e w4 ⟨hnd, hb4⟩
  obtain ⟨Eb, h_Eb⟩ : ∃ q, [conNode b] = q := ⟨_, rfl⟩
  rw [h_Eb] at hnd
  obtain ⟨A_Eb, c_Eb, rfl, hst⟩ := hnd
  have E_Eb := hide h_Eb
  have N_Eb := hide hst.inn
  clear h_Eb hst
  have N_Ea := hide (N_Ea.out.below hb4)
  have bb_w4 := below_trans bb_w3 hb4
  clear hb4 bb_w3
  go_wp2_with fail
  refine (columns_any _).mono ?_
  rintro e w5 ⟨⟨rfl, hcx⟩, hb5⟩
  have N_Ea := hide (N_Ea.out.below hb5)
  have N_Eb := hide (N_Eb.out.below hb5)
  have bb_w5 := below_trans bb_w4 hb5
  clear hb5 bb_w4
  have C3 := hide hcx
  clear hcx
  go_wp2_with fail
  refine (row5 _ _ _ _ _ _ [] C3.out In.nil_ 0 (by omega) (by omega)).mono ?_
  rintro e w6 ⟨⟨Ar, cr, vs, rfl, hvs, hro⟩, hb6⟩
  have VS := hide hvs
  clear hvs
  clear C3
  have N_Ea := hide (N_Ea.out.below hb6)
  have N_Eb := hide (N_Eb.out.below hb6)
  have bb_w6 := below_trans bb_w5 hb6
  clear hb6 bb_w5
  obtain ⟨x, y, z, ex1, ex2, ex3, ex4, ex5, ex6, hsum⟩ := order_law M_a.out.1 M_b.out.1 (by rw [M_a.out.2.2.1 hk0 hk1, M_b.out.2.2.1 hk0 hk1]) (by rw [M_a.out.2.2.1 hk0 hk1]; omega) hro
  have X1 := hide ex1
  have X2 := hide ex2
  have X3 := hide ex3
  have X4 := hide ex4
  have X5 := hide ex5
  have X6 := hide ex6
  have l_Ea : Hid (Ea.length = 1) := hide (by rw [← E_Ea.out]; rfl)
  have l_Eb : Hid (Eb.length = 1) := hide (by rw [← E_Eb.out]; rfl)
  have P3 := pick3 hsum
  clear ex1 ex2 ex3 ex4 ex5 ex6 hsum
  rcases P3 with ⟨rfl, rfl, rfl⟩ | ⟨rfl, rfl, rfl⟩ | ⟨rfl, rfl, rfl⟩
  · go_wp2_with fail
    refine (both_any 12 (by simp [I64]) _ _ _ _ _ N_Ea.out _ _ _ _ N_Eb.out (by rw [l_Ea.out]; decide) (by rw [l_Eb.out]; decide)).mono ?_
    rintro e w7 ⟨hnd, hb7⟩
    obtain ⟨L1, h_L1⟩ : ∃ q, (Ea ++ Eb) ++ [opNode 12] = q := ⟨_, rfl⟩
    rw [h_L1] at hnd
    obtain ⟨A_L1, c_L1, rfl, hst⟩ := hnd
    have E_L1 := hide h_L1
    have N_L1 := hide hst.inn
    clear h_L1 hst
    have N_Ea := hide (N_Ea.out.below hb7)
    have N_Eb := hide (N_Eb.out.below hb7)
    have VS := hide (VS.out.below hb7)
    have bb_w7 := below_trans bb_w6 hb7
    clear hb7 bb_w6
    have F1 : evalS L1 cols5 vs zs3 = (0, ⟨1, 1, ⟨#[]⟩⟩) := by rw [← E_L1.out, ← E_Ea.out, ← E_Eb.out]; exact X1.out
    go_wp2_with fail
    refine (valueE_any _ _ _ _ L1 N_L1.out (hw.below bb_w7) _ _ _ vs VS.out).mono ?_
    rintro e w8 ⟨rfl, hb8⟩
    rw [F1]
    simp only [Val.cells]
    have N_Ea := hide (N_Ea.out.below hb8)
    have N_Eb := hide (N_Eb.out.below hb8)
    have VS := hide (VS.out.below hb8)
    have N_L1 := hide (N_L1.out.below hb8)
    have bb_w8 := below_trans bb_w7 hb8
    clear hb8 bb_w7
    obtain ⟨w9, hV⟩ : ∃ V, V = w8.alloc (.cells #[.int .i64 1, .int .i64 1, .string ⟨#[]⟩] 27) := ⟨_, rfl⟩
    have p0 : w9.cell? ⟨w8.heap.size, 0, none⟩ = some (.int .i64 1) := by rw [hV]; simp [go_sem]
    have p1 : w9.cell? ⟨w8.heap.size, 1, none⟩ = some (.int .i64 1) := by rw [hV]; simp [go_sem]
    have p2 : w9.cell? ⟨w8.heap.size, 2, none⟩ = some (.string ⟨#[]⟩) := by rw [hV]; simp [go_sem]
    have hbv : Below w8.heap.size w8 w9 := by rw [hV]; exact below_alloc
    go_upto_region 5 with (fail)
    rw [← hV]
    obtain ⟨G_p, hG⟩ : ∃ G, w8.heap.size = G := ⟨_, rfl⟩
    rw [hG] at p0 p1 p2
    rw [hG]
    clear hV hG
    have N_Ea := hide (N_Ea.out.below hbv)
    have N_Eb := hide (N_Eb.out.below hbv)
    have VS := hide (VS.out.below hbv)
    have N_L1 := hide (N_L1.out.below hbv)
    have bb_w9 := below_trans bb_w8 hbv
    clear hbv bb_w8
    have h_p := lt_of_cell p0
    clear N_L1
    clear F1
    go_wp2_with fail
    refine (both_any 10 (by simp [I64]) _ _ _ _ _ N_Ea.out _ _ _ _ N_Eb.out (by rw [l_Ea.out]; decide) (by rw [l_Eb.out]; decide)).mono ?_
    rintro e w10 ⟨hnd, hb10⟩
    obtain ⟨L2, h_L2⟩ : ∃ q, (Ea ++ Eb) ++ [opNode 10] = q := ⟨_, rfl⟩
    rw [h_L2] at hnd
    obtain ⟨A_L2, c_L2, rfl, hst⟩ := hnd
    have E_L2 := hide h_L2
    have N_L2 := hide hst.inn
    clear h_L2 hst
    have N_Ea := hide (N_Ea.out.below hb10)
    have N_Eb := hide (N_Eb.out.below hb10)
    have VS := hide (VS.out.below hb10)
    have p0 := bat hb10 h_p p0
    have p1 := bat hb10 h_p p1
    have p2 := bat hb10 h_p p2
    have h_p := lt_of_cell p0
    have bb_w10 := below_trans bb_w9 hb10
    clear hb10 bb_w9
    have F1 : evalS L2 cols5 vs zs3 = (0, ⟨1, 0, ⟨#[]⟩⟩) := by rw [← E_L2.out, ← E_Ea.out, ← E_Eb.out]; exact X2.out
    go_wp2_with fail
    refine (valueE_any _ _ _ _ L2 N_L2.out (hw.below bb_w10) _ _ _ vs VS.out).mono ?_
    rintro e w11 ⟨rfl, hb11⟩
    rw [F1]
    simp only [Val.cells]
    have N_Ea := hide (N_Ea.out.below hb11)
    have N_Eb := hide (N_Eb.out.below hb11)
    have VS := hide (VS.out.below hb11)
    have N_L2 := hide (N_L2.out.below hb11)
    have p0 := bat hb11 h_p p0
    have p1 := bat hb11 h_p p1
    have p2 := bat hb11 h_p p2
    have h_p := lt_of_cell p0
    have bb_w11 := below_trans bb_w10 hb11
    clear hb11 bb_w10
    obtain ⟨w12, hV⟩ : ∃ V, V = w11.alloc (.cells #[.int .i64 1, .int .i64 0, .string ⟨#[]⟩] 27) := ⟨_, rfl⟩
    have q0 : w12.cell? ⟨w11.heap.size, 0, none⟩ = some (.int .i64 1) := by rw [hV]; simp [go_sem]
    have q1 : w12.cell? ⟨w11.heap.size, 1, none⟩ = some (.int .i64 0) := by rw [hV]; simp [go_sem]
    have q2 : w12.cell? ⟨w11.heap.size, 2, none⟩ = some (.string ⟨#[]⟩) := by rw [hV]; simp [go_sem]
    have hbv : Below w11.heap.size w11 w12 := by rw [hV]; exact below_alloc
    go_upto_region 6 with (fail)
    rw [← hV]
    obtain ⟨G_q, hG⟩ : ∃ G, w11.heap.size = G := ⟨_, rfl⟩
    rw [hG] at q0 q1 q2
    rw [hG]
    clear hV hG
    have N_Ea := hide (N_Ea.out.below hbv)
    have N_Eb := hide (N_Eb.out.below hbv)
    have VS := hide (VS.out.below hbv)
    have N_L2 := hide (N_L2.out.below hbv)
    have p0 := bat hbv h_p p0
    have p1 := bat hbv h_p p1
    have p2 := bat hbv h_p p2
    have h_p := lt_of_cell p0
    have bb_w12 := below_trans bb_w11 hbv
    clear hbv bb_w11
    have h_q := lt_of_cell q0
    clear N_L2
    clear F1
    go_wp2_with fail
    refine (both_any 12 (by simp [I64]) _ _ _ _ _ N_Eb.out _ _ _ _ N_Ea.out (by rw [l_Eb.out]; decide) (by rw [l_Ea.out]; decide)).mono ?_
    rintro e w13 ⟨hnd, hb13⟩
    obtain ⟨L3, h_L3⟩ : ∃ q, (Eb ++ Ea) ++ [opNode 12] = q := ⟨_, rfl⟩
    rw [h_L3] at hnd
    obtain ⟨A_L3, c_L3, rfl, hst⟩ := hnd
    have E_L3 := hide h_L3
    have N_L3 := hide hst.inn
    clear h_L3 hst
    have N_Ea := hide (N_Ea.out.below hb13)
    have N_Eb := hide (N_Eb.out.below hb13)
    have VS := hide (VS.out.below hb13)
    have p0 := bat hb13 h_p p0
    have p1 := bat hb13 h_p p1
    have p2 := bat hb13 h_p p2
    have h_p := lt_of_cell p0
    have q0 := bat hb13 h_q q0
    have q1 := bat hb13 h_q q1
    have q2 := bat hb13 h_q q2
    have h_q := lt_of_cell q0
    have bb_w13 := below_trans bb_w12 hb13
    clear hb13 bb_w12
    have F1 : evalS L3 cols5 vs zs3 = (0, ⟨1, 0, ⟨#[]⟩⟩) := by rw [← E_L3.out, ← E_Eb.out, ← E_Ea.out]; exact X3.out
    go_wp2_with fail
    refine (valueE_any _ _ _ _ L3 N_L3.out (hw.below bb_w13) _ _ _ vs VS.out).mono ?_
    rintro e w14 ⟨rfl, hb14⟩
    rw [F1]
    simp only [Val.cells]
    have N_Ea := hide (N_Ea.out.below hb14)
    have N_Eb := hide (N_Eb.out.below hb14)
    have VS := hide (VS.out.below hb14)
    have N_L3 := hide (N_L3.out.below hb14)
    have p0 := bat hb14 h_p p0
    have p1 := bat hb14 h_p p1
    have p2 := bat hb14 h_p p2
    have h_p := lt_of_cell p0
    have q0 := bat hb14 h_q q0
    have q1 := bat hb14 h_q q1
    have q2 := bat hb14 h_q q2
    have h_q := lt_of_cell q0
    have bb_w14 := below_trans bb_w13 hb14
    clear hb14 bb_w13
    obtain ⟨w15, hV⟩ : ∃ V, V = w14.alloc (.cells #[.int .i64 1, .int .i64 0, .string ⟨#[]⟩] 27) := ⟨_, rfl⟩
    have r0 : w15.cell? ⟨w14.heap.size, 0, none⟩ = some (.int .i64 1) := by rw [hV]; simp [go_sem]
    have r1 : w15.cell? ⟨w14.heap.size, 1, none⟩ = some (.int .i64 0) := by rw [hV]; simp [go_sem]
    have r2 : w15.cell? ⟨w14.heap.size, 2, none⟩ = some (.string ⟨#[]⟩) := by rw [hV]; simp [go_sem]
    have hbv : Below w14.heap.size w14 w15 := by rw [hV]; exact below_alloc
    go_upto_region 7 with (fail)
    rw [← hV]
    obtain ⟨G_r, hG⟩ : ∃ G, w14.heap.size = G := ⟨_, rfl⟩
    rw [hG] at r0 r1 r2
    rw [hG]
    clear hV hG
    have N_Ea := hide (N_Ea.out.below hbv)
    have N_Eb := hide (N_Eb.out.below hbv)
    have VS := hide (VS.out.below hbv)
    have N_L3 := hide (N_L3.out.below hbv)
    have p0 := bat hbv h_p p0
    have p1 := bat hbv h_p p1
    have p2 := bat hbv h_p p2
    have h_p := lt_of_cell p0
    have q0 := bat hbv h_q q0
    have q1 := bat hbv h_q q1
    have q2 := bat hbv h_q q2
    have h_q := lt_of_cell q0
    have bb_w15 := below_trans bb_w14 hbv
    clear hbv bb_w14
    have h_r := lt_of_cell r0
    clear N_L3
    clear F1
    go_wp2_with fail
    refine (both_any 13 (by simp [I64]) _ _ _ _ _ N_Ea.out _ _ _ _ N_Eb.out (by rw [l_Ea.out]; decide) (by rw [l_Eb.out]; decide)).mono ?_
    rintro e w16 ⟨hnd, hb16⟩
    obtain ⟨L4, h_L4⟩ : ∃ q, (Ea ++ Eb) ++ [opNode 13] = q := ⟨_, rfl⟩
    rw [h_L4] at hnd
    obtain ⟨A_L4, c_L4, rfl, hst⟩ := hnd
    have E_L4 := hide h_L4
    have N_L4 := hide hst.inn
    clear h_L4 hst
    have N_Ea := hide (N_Ea.out.below hb16)
    have N_Eb := hide (N_Eb.out.below hb16)
    have VS := hide (VS.out.below hb16)
    have p0 := bat hb16 h_p p0
    have p1 := bat hb16 h_p p1
    have p2 := bat hb16 h_p p2
    have h_p := lt_of_cell p0
    have q0 := bat hb16 h_q q0
    have q1 := bat hb16 h_q q1
    have q2 := bat hb16 h_q q2
    have h_q := lt_of_cell q0
    have r0 := bat hb16 h_r r0
    have r1 := bat hb16 h_r r1
    have r2 := bat hb16 h_r r2
    have h_r := lt_of_cell r0
    have bb_w16 := below_trans bb_w15 hb16
    clear hb16 bb_w15
    have F1 : evalS L4 cols5 vs zs3 = (0, ⟨1, 1, ⟨#[]⟩⟩) := by rw [← E_L4.out, ← E_Ea.out, ← E_Eb.out]; exact X4.out
    go_wp2_with fail
    refine (valueE_any _ _ _ _ L4 N_L4.out (hw.below bb_w16) _ _ _ vs VS.out).mono ?_
    rintro e w17 ⟨rfl, hb17⟩
    rw [F1]
    simp only [Val.cells]
    have N_Ea := hide (N_Ea.out.below hb17)
    have N_Eb := hide (N_Eb.out.below hb17)
    have VS := hide (VS.out.below hb17)
    have N_L4 := hide (N_L4.out.below hb17)
    have p0 := bat hb17 h_p p0
    have p1 := bat hb17 h_p p1
    have p2 := bat hb17 h_p p2
    have h_p := lt_of_cell p0
    have q0 := bat hb17 h_q q0
    have q1 := bat hb17 h_q q1
    have q2 := bat hb17 h_q q2
    have h_q := lt_of_cell q0
    have r0 := bat hb17 h_r r0
    have r1 := bat hb17 h_r r1
    have r2 := bat hb17 h_r r2
    have h_r := lt_of_cell r0
    have bb_w17 := below_trans bb_w16 hb17
    clear hb17 bb_w16
    obtain ⟨w18, hV⟩ : ∃ V, V = w17.alloc (.cells #[.int .i64 1, .int .i64 1, .string ⟨#[]⟩] 27) := ⟨_, rfl⟩
    have s0 : w18.cell? ⟨w17.heap.size, 0, none⟩ = some (.int .i64 1) := by rw [hV]; simp [go_sem]
    have s1 : w18.cell? ⟨w17.heap.size, 1, none⟩ = some (.int .i64 1) := by rw [hV]; simp [go_sem]
    have s2 : w18.cell? ⟨w17.heap.size, 2, none⟩ = some (.string ⟨#[]⟩) := by rw [hV]; simp [go_sem]
    have hbv : Below w17.heap.size w17 w18 := by rw [hV]; exact below_alloc
    go_upto_region 8 with (fail)
    rw [← hV]
    obtain ⟨G_s, hG⟩ : ∃ G, w17.heap.size = G := ⟨_, rfl⟩
    rw [hG] at s0 s1 s2
    rw [hG]
    clear hV hG
    have N_Ea := hide (N_Ea.out.below hbv)
    have N_Eb := hide (N_Eb.out.below hbv)
    have VS := hide (VS.out.below hbv)
    have N_L4 := hide (N_L4.out.below hbv)
    have p0 := bat hbv h_p p0
    have p1 := bat hbv h_p p1
    have p2 := bat hbv h_p p2
    have h_p := lt_of_cell p0
    have q0 := bat hbv h_q q0
    have q1 := bat hbv h_q q1
    have q2 := bat hbv h_q q2
    have h_q := lt_of_cell q0
    have r0 := bat hbv h_r r0
    have r1 := bat hbv h_r r1
    have r2 := bat hbv h_r r2
    have h_r := lt_of_cell r0
    have bb_w18 := below_trans bb_w17 hbv
    clear hbv bb_w17
    have h_s := lt_of_cell s0
    clear N_L4
    clear F1
    go_wp2_with fail
    refine (both_any 11 (by simp [I64]) _ _ _ _ _ N_Ea.out _ _ _ _ N_Eb.out (by rw [l_Ea.out]; decide) (by rw [l_Eb.out]; decide)).mono ?_
    rintro e w19 ⟨hnd, hb19⟩
    obtain ⟨L5, h_L5⟩ : ∃ q, (Ea ++ Eb) ++ [opNode 11] = q := ⟨_, rfl⟩
    rw [h_L5] at hnd
    obtain ⟨A_L5, c_L5, rfl, hst⟩ := hnd
    have E_L5 := hide h_L5
    have N_L5 := hide hst.inn
    clear h_L5 hst
    have N_Ea := hide (N_Ea.out.below hb19)
    have N_Eb := hide (N_Eb.out.below hb19)
    have VS := hide (VS.out.below hb19)
    have p0 := bat hb19 h_p p0
    have p1 := bat hb19 h_p p1
    have p2 := bat hb19 h_p p2
    have h_p := lt_of_cell p0
    have q0 := bat hb19 h_q q0
    have q1 := bat hb19 h_q q1
    have q2 := bat hb19 h_q q2
    have h_q := lt_of_cell q0
    have r0 := bat hb19 h_r r0
    have r1 := bat hb19 h_r r1
    have r2 := bat hb19 h_r r2
    have h_r := lt_of_cell r0
    have s0 := bat hb19 h_s s0
    have s1 := bat hb19 h_s s1
    have s2 := bat hb19 h_s s2
    have h_s := lt_of_cell s0
    have bb_w19 := below_trans bb_w18 hb19
    clear hb19 bb_w18
    have F1 : evalS L5 cols5 vs zs3 = (0, ⟨1, 1, ⟨#[]⟩⟩) := by rw [← E_L5.out, ← E_Ea.out, ← E_Eb.out]; exact X5.out
    go_wp2_with fail
    refine (valueE_any _ _ _ _ L5 N_L5.out (hw.below bb_w19) _ _ _ vs VS.out).mono ?_
    rintro e w20 ⟨rfl, hb20⟩
    rw [F1]
    simp only [Val.cells]
    have N_Ea := hide (N_Ea.out.below hb20)
    have N_Eb := hide (N_Eb.out.below hb20)
    have VS := hide (VS.out.below hb20)
    have N_L5 := hide (N_L5.out.below hb20)
    have p0 := bat hb20 h_p p0
    have p1 := bat hb20 h_p p1
    have p2 := bat hb20 h_p p2
    have h_p := lt_of_cell p0
    have q0 := bat hb20 h_q q0
    have q1 := bat hb20 h_q q1
    have q2 := bat hb20 h_q q2
    have h_q := lt_of_cell q0
    have r0 := bat hb20 h_r r0
    have r1 := bat hb20 h_r r1
    have r2 := bat hb20 h_r r2
    have h_r := lt_of_cell r0
    have s0 := bat hb20 h_s s0
    have s1 := bat hb20 h_s s1
    have s2 := bat hb20 h_s s2
    have h_s := lt_of_cell s0
    have bb_w20 := below_trans bb_w19 hb20
    clear hb20 bb_w19
    obtain ⟨w21, hV⟩ : ∃ V, V = w20.alloc (.cells #[.int .i64 1, .int .i64 1, .string ⟨#[]⟩] 27) := ⟨_, rfl⟩
    have t0 : w21.cell? ⟨w20.heap.size, 0, none⟩ = some (.int .i64 1) := by rw [hV]; simp [go_sem]
    have t1 : w21.cell? ⟨w20.heap.size, 1, none⟩ = some (.int .i64 1) := by rw [hV]; simp [go_sem]
    have t2 : w21.cell? ⟨w20.heap.size, 2, none⟩ = some (.string ⟨#[]⟩) := by rw [hV]; simp [go_sem]
    have hbv : Below w20.heap.size w20 w21 := by rw [hV]; exact below_alloc
    go_upto_region 9 with (fail)
    rw [← hV]
    obtain ⟨G_t, hG⟩ : ∃ G, w20.heap.size = G := ⟨_, rfl⟩
    rw [hG] at t0 t1 t2
    rw [hG]
    clear hV hG
    have N_Ea := hide (N_Ea.out.below hbv)
    have N_Eb := hide (N_Eb.out.below hbv)
    have VS := hide (VS.out.below hbv)
    have N_L5 := hide (N_L5.out.below hbv)
    have p0 := bat hbv h_p p0
    have p1 := bat hbv h_p p1
    have p2 := bat hbv h_p p2
    have h_p := lt_of_cell p0
    have q0 := bat hbv h_q q0
    have q1 := bat hbv h_q q1
    have q2 := bat hbv h_q q2
    have h_q := lt_of_cell q0
    have r0 := bat hbv h_r r0
    have r1 := bat hbv h_r r1
    have r2 := bat hbv h_r r2
    have h_r := lt_of_cell r0
    have s0 := bat hbv h_s s0
    have s1 := bat hbv h_s s1
    have s2 := bat hbv h_s s2
    have h_s := lt_of_cell s0
    have bb_w21 := below_trans bb_w20 hbv
    clear hbv bb_w20
    have h_t := lt_of_cell t0
    clear N_L5
    clear F1
    go_wp2_with fail
    refine (constant_any nullV ⟨by simp [nullV, I64], by simp [nullV, I64], by simp [nullV, Str, ByteArray.size]⟩ _).mono ?_
    rintro e w22 ⟨hnd, hb22⟩
    obtain ⟨En, h_En⟩ : ∃ q, [conNode nullV] = q := ⟨_, rfl⟩
    rw [h_En] at hnd
    obtain ⟨A_En, c_En, rfl, hst⟩ := hnd
    have E_En := hide h_En
    have N_En := hide hst.inn
    clear h_En hst
    have N_Ea := hide (N_Ea.out.below hb22)
    have N_Eb := hide (N_Eb.out.below hb22)
    have VS := hide (VS.out.below hb22)
    have p0 := bat hb22 h_p p0
    have p1 := bat hb22 h_p p1
    have p2 := bat hb22 h_p p2
    have h_p := lt_of_cell p0
    have q0 := bat hb22 h_q q0
    have q1 := bat hb22 h_q q1
    have q2 := bat hb22 h_q q2
    have h_q := lt_of_cell q0
    have r0 := bat hb22 h_r r0
    have r1 := bat hb22 h_r r1
    have r2 := bat hb22 h_r r2
    have h_r := lt_of_cell r0
    have s0 := bat hb22 h_s s0
    have s1 := bat hb22 h_s s1
    have s2 := bat hb22 h_s s2
    have h_s := lt_of_cell s0
    have t0 := bat hb22 h_t t0
    have t1 := bat hb22 h_t t1
    have t2 := bat hb22 h_t t2
    have h_t := lt_of_cell t0
    have bb_w22 := below_trans bb_w21 hb22
    clear hb22 bb_w21
    have l_En : Hid (En.length = 1) := hide (by rw [← E_En.out]; rfl)
    go_wp2_with fail
    refine (both_any 12 (by simp [I64]) _ _ _ _ _ N_Ea.out _ _ _ _ N_En.out (by rw [l_Ea.out]; decide) (by rw [l_En.out]; decide)).mono ?_
    rintro e w23 ⟨hnd, hb23⟩
    obtain ⟨L6, h_L6⟩ : ∃ q, (Ea ++ En) ++ [opNode 12] = q := ⟨_, rfl⟩
    rw [h_L6] at hnd
    obtain ⟨A_L6, c_L6, rfl, hst⟩ := hnd
    have E_L6 := hide h_L6
    have N_L6 := hide hst.inn
    clear h_L6 hst
    have N_Ea := hide (N_Ea.out.below hb23)
    have N_Eb := hide (N_Eb.out.below hb23)
    have VS := hide (VS.out.below hb23)
    have N_En := hide (N_En.out.below hb23)
    have p0 := bat hb23 h_p p0
    have p1 := bat hb23 h_p p1
    have p2 := bat hb23 h_p p2
    have h_p := lt_of_cell p0
    have q0 := bat hb23 h_q q0
    have q1 := bat hb23 h_q q1
    have q2 := bat hb23 h_q q2
    have h_q := lt_of_cell q0
    have r0 := bat hb23 h_r r0
    have r1 := bat hb23 h_r r1
    have r2 := bat hb23 h_r r2
    have h_r := lt_of_cell r0
    have s0 := bat hb23 h_s s0
    have s1 := bat hb23 h_s s1
    have s2 := bat hb23 h_s s2
    have h_s := lt_of_cell s0
    have t0 := bat hb23 h_t t0
    have t1 := bat hb23 h_t t1
    have t2 := bat hb23 h_t t2
    have h_t := lt_of_cell t0
    have bb_w23 := below_trans bb_w22 hb23
    clear hb23 bb_w22
    have F1 : evalS L6 cols5 vs zs3 = (0, ⟨0, 0, ⟨#[]⟩⟩) := by rw [← E_L6.out, ← E_Ea.out, ← E_En.out]; exact X6.out
    go_wp2_with fail
    refine (valueE_any _ _ _ _ L6 N_L6.out (hw.below bb_w23) _ _ _ vs VS.out).mono ?_
    rintro e w24 ⟨rfl, hb24⟩
    rw [F1]
    simp only [Val.cells]
    have N_Ea := hide (N_Ea.out.below hb24)
    have N_Eb := hide (N_Eb.out.below hb24)
    have VS := hide (VS.out.below hb24)
    have N_En := hide (N_En.out.below hb24)
    have N_L6 := hide (N_L6.out.below hb24)
    have p0 := bat hb24 h_p p0
    have p1 := bat hb24 h_p p1
    have p2 := bat hb24 h_p p2
    have h_p := lt_of_cell p0
    have q0 := bat hb24 h_q q0
    have q1 := bat hb24 h_q q1
    have q2 := bat hb24 h_q q2
    have h_q := lt_of_cell q0
    have r0 := bat hb24 h_r r0
    have r1 := bat hb24 h_r r1
    have r2 := bat hb24 h_r r2
    have h_r := lt_of_cell r0
    have s0 := bat hb24 h_s s0
    have s1 := bat hb24 h_s s1
    have s2 := bat hb24 h_s s2
    have h_s := lt_of_cell s0
    have t0 := bat hb24 h_t t0
    have t1 := bat hb24 h_t t1
    have t2 := bat hb24 h_t t2
    have h_t := lt_of_cell t0
    have bb_w24 := below_trans bb_w23 hb24
    clear hb24 bb_w23
    obtain ⟨w25, hV⟩ : ∃ V, V = w24.alloc (.cells #[.int .i64 0, .int .i64 0, .string ⟨#[]⟩] 27) := ⟨_, rfl⟩
    have u0 : w25.cell? ⟨w24.heap.size, 0, none⟩ = some (.int .i64 0) := by rw [hV]; simp [go_sem]
    have u1 : w25.cell? ⟨w24.heap.size, 1, none⟩ = some (.int .i64 0) := by rw [hV]; simp [go_sem]
    have u2 : w25.cell? ⟨w24.heap.size, 2, none⟩ = some (.string ⟨#[]⟩) := by rw [hV]; simp [go_sem]
    have hbv : Below w24.heap.size w24 w25 := by rw [hV]; exact below_alloc
    go_upto_region 10 with (fail)
    rw [← hV]
    obtain ⟨G_u, hG⟩ : ∃ G, w24.heap.size = G := ⟨_, rfl⟩
    rw [hG] at u0 u1 u2
    rw [hG]
    clear hV hG
    have N_Ea := hide (N_Ea.out.below hbv)
    have N_Eb := hide (N_Eb.out.below hbv)
    have VS := hide (VS.out.below hbv)
    have N_En := hide (N_En.out.below hbv)
    have N_L6 := hide (N_L6.out.below hbv)
    have p0 := bat hbv h_p p0
    have p1 := bat hbv h_p p1
    have p2 := bat hbv h_p p2
    have h_p := lt_of_cell p0
    have q0 := bat hbv h_q q0
    have q1 := bat hbv h_q q1
    have q2 := bat hbv h_q q2
    have h_q := lt_of_cell q0
    have r0 := bat hbv h_r r0
    have r1 := bat hbv h_r r1
    have r2 := bat hbv h_r r2
    have h_r := lt_of_cell r0
    have s0 := bat hbv h_s s0
    have s1 := bat hbv h_s s1
    have s2 := bat hbv h_s s2
    have h_s := lt_of_cell s0
    have t0 := bat hbv h_t t0
    have t1 := bat hbv h_t t1
    have t2 := bat hbv h_t t2
    have h_t := lt_of_cell t0
    have bb_w25 := below_trans bb_w24 hbv
    clear hbv bb_w24
    have h_u := lt_of_cell u0
    clear N_L6
    clear F1
    clear N_Ea N_Eb VS N_En
    go_wp2_with fail
    refine (known_any _ (hw.below bb_w25)).mono ?_
    rintro e w99 ⟨rfl, hb99⟩
    go_wp2
    go_ret
    exact ⟨rfl, below_trans bb_w25 hb99⟩
  · go_wp2_with fail
    refine (both_any 12 (by simp [I64]) _ _ _ _ _ N_Ea.out _ _ _ _ N_Eb.out (by rw [l_Ea.out]; decide) (by rw [l_Eb.out]; decide)).mono ?_
    rintro e w7 ⟨hnd, hb7⟩
    obtain ⟨L1, h_L1⟩ : ∃ q, (Ea ++ Eb) ++ [opNode 12] = q := ⟨_, rfl⟩
    rw [h_L1] at hnd
    obtain ⟨A_L1, c_L1, rfl, hst⟩ := hnd
    have E_L1 := hide h_L1
    have N_L1 := hide hst.inn
    clear h_L1 hst
    have N_Ea := hide (N_Ea.out.below hb7)
    have N_Eb := hide (N_Eb.out.below hb7)
    have VS := hide (VS.out.below hb7)
    have bb_w7 := below_trans bb_w6 hb7
    clear hb7 bb_w6
    have F1 : evalS L1 cols5 vs zs3 = (0, ⟨1, 0, ⟨#[]⟩⟩) := by rw [← E_L1.out, ← E_Ea.out, ← E_Eb.out]; exact X1.out
    go_wp2_with fail
    refine (valueE_any _ _ _ _ L1 N_L1.out (hw.below bb_w7) _ _ _ vs VS.out).mono ?_
    rintro e w8 ⟨rfl, hb8⟩
    rw [F1]
    simp only [Val.cells]
    have N_Ea := hide (N_Ea.out.below hb8)
    have N_Eb := hide (N_Eb.out.below hb8)
    have VS := hide (VS.out.below hb8)
    have N_L1 := hide (N_L1.out.below hb8)
    have bb_w8 := below_trans bb_w7 hb8
    clear hb8 bb_w7
    obtain ⟨w9, hV⟩ : ∃ V, V = w8.alloc (.cells #[.int .i64 1, .int .i64 0, .string ⟨#[]⟩] 27) := ⟨_, rfl⟩
    have p0 : w9.cell? ⟨w8.heap.size, 0, none⟩ = some (.int .i64 1) := by rw [hV]; simp [go_sem]
    have p1 : w9.cell? ⟨w8.heap.size, 1, none⟩ = some (.int .i64 0) := by rw [hV]; simp [go_sem]
    have p2 : w9.cell? ⟨w8.heap.size, 2, none⟩ = some (.string ⟨#[]⟩) := by rw [hV]; simp [go_sem]
    have hbv : Below w8.heap.size w8 w9 := by rw [hV]; exact below_alloc
    go_upto_region 5 with (fail)
    rw [← hV]
    obtain ⟨G_p, hG⟩ : ∃ G, w8.heap.size = G := ⟨_, rfl⟩
    rw [hG] at p0 p1 p2
    rw [hG]
    clear hV hG
    have N_Ea := hide (N_Ea.out.below hbv)
    have N_Eb := hide (N_Eb.out.below hbv)
    have VS := hide (VS.out.below hbv)
    have N_L1 := hide (N_L1.out.below hbv)
    have bb_w9 := below_trans bb_w8 hbv
    clear hbv bb_w8
    have h_p := lt_of_cell p0
    clear N_L1
    clear F1
    go_wp2_with fail
    refine (both_any 10 (by simp [I64]) _ _ _ _ _ N_Ea.out _ _ _ _ N_Eb.out (by rw [l_Ea.out]; decide) (by rw [l_Eb.out]; decide)).mono ?_
    rintro e w10 ⟨hnd, hb10⟩
    obtain ⟨L2, h_L2⟩ : ∃ q, (Ea ++ Eb) ++ [opNode 10] = q := ⟨_, rfl⟩
    rw [h_L2] at hnd
    obtain ⟨A_L2, c_L2, rfl, hst⟩ := hnd
    have E_L2 := hide h_L2
    have N_L2 := hide hst.inn
    clear h_L2 hst
    have N_Ea := hide (N_Ea.out.below hb10)
    have N_Eb := hide (N_Eb.out.below hb10)
    have VS := hide (VS.out.below hb10)
    have p0 := bat hb10 h_p p0
    have p1 := bat hb10 h_p p1
    have p2 := bat hb10 h_p p2
    have h_p := lt_of_cell p0
    have bb_w10 := below_trans bb_w9 hb10
    clear hb10 bb_w9
    have F1 : evalS L2 cols5 vs zs3 = (0, ⟨1, 1, ⟨#[]⟩⟩) := by rw [← E_L2.out, ← E_Ea.out, ← E_Eb.out]; exact X2.out
    go_wp2_with fail
    refine (valueE_any _ _ _ _ L2 N_L2.out (hw.below bb_w10) _ _ _ vs VS.out).mono ?_
    rintro e w11 ⟨rfl, hb11⟩
    rw [F1]
    simp only [Val.cells]
    have N_Ea := hide (N_Ea.out.below hb11)
    have N_Eb := hide (N_Eb.out.below hb11)
    have VS := hide (VS.out.below hb11)
    have N_L2 := hide (N_L2.out.below hb11)
    have p0 := bat hb11 h_p p0
    have p1 := bat hb11 h_p p1
    have p2 := bat hb11 h_p p2
    have h_p := lt_of_cell p0
    have bb_w11 := below_trans bb_w10 hb11
    clear hb11 bb_w10
    obtain ⟨w12, hV⟩ : ∃ V, V = w11.alloc (.cells #[.int .i64 1, .int .i64 1, .string ⟨#[]⟩] 27) := ⟨_, rfl⟩
    have q0 : w12.cell? ⟨w11.heap.size, 0, none⟩ = some (.int .i64 1) := by rw [hV]; simp [go_sem]
    have q1 : w12.cell? ⟨w11.heap.size, 1, none⟩ = some (.int .i64 1) := by rw [hV]; simp [go_sem]
    have q2 : w12.cell? ⟨w11.heap.size, 2, none⟩ = some (.string ⟨#[]⟩) := by rw [hV]; simp [go_sem]
    have hbv : Below w11.heap.size w11 w12 := by rw [hV]; exact below_alloc
    go_upto_region 6 with (fail)
    rw [← hV]
    obtain ⟨G_q, hG⟩ : ∃ G, w11.heap.size = G := ⟨_, rfl⟩
    rw [hG] at q0 q1 q2
    rw [hG]
    clear hV hG
    have N_Ea := hide (N_Ea.out.below hbv)
    have N_Eb := hide (N_Eb.out.below hbv)
    have VS := hide (VS.out.below hbv)
    have N_L2 := hide (N_L2.out.below hbv)
    have p0 := bat hbv h_p p0
    have p1 := bat hbv h_p p1
    have p2 := bat hbv h_p p2
    have h_p := lt_of_cell p0
    have bb_w12 := below_trans bb_w11 hbv
    clear hbv bb_w11
    have h_q := lt_of_cell q0
    clear N_L2
    clear F1
    go_wp2_with fail
    refine (both_any 12 (by simp [I64]) _ _ _ _ _ N_Eb.out _ _ _ _ N_Ea.out (by rw [l_Eb.out]; decide) (by rw [l_Ea.out]; decide)).mono ?_
    rintro e w13 ⟨hnd, hb13⟩
    obtain ⟨L3, h_L3⟩ : ∃ q, (Eb ++ Ea) ++ [opNode 12] = q := ⟨_, rfl⟩
    rw [h_L3] at hnd
    obtain ⟨A_L3, c_L3, rfl, hst⟩ := hnd
    have E_L3 := hide h_L3
    have N_L3 := hide hst.inn
    clear h_L3 hst
    have N_Ea := hide (N_Ea.out.below hb13)
    have N_Eb := hide (N_Eb.out.below hb13)
    have VS := hide (VS.out.below hb13)
    have p0 := bat hb13 h_p p0
    have p1 := bat hb13 h_p p1
    have p2 := bat hb13 h_p p2
    have h_p := lt_of_cell p0
    have q0 := bat hb13 h_q q0
    have q1 := bat hb13 h_q q1
    have q2 := bat hb13 h_q q2
    have h_q := lt_of_cell q0
    have bb_w13 := below_trans bb_w12 hb13
    clear hb13 bb_w12
    have F1 : evalS L3 cols5 vs zs3 = (0, ⟨1, 0, ⟨#[]⟩⟩) := by rw [← E_L3.out, ← E_Eb.out, ← E_Ea.out]; exact X3.out
    go_wp2_with fail
    refine (valueE_any _ _ _ _ L3 N_L3.out (hw.below bb_w13) _ _ _ vs VS.out).mono ?_
    rintro e w14 ⟨rfl, hb14⟩
    rw [F1]
    simp only [Val.cells]
    have N_Ea := hide (N_Ea.out.below hb14)
    have N_Eb := hide (N_Eb.out.below hb14)
    have VS := hide (VS.out.below hb14)
    have N_L3 := hide (N_L3.out.below hb14)
    have p0 := bat hb14 h_p p0
    have p1 := bat hb14 h_p p1
    have p2 := bat hb14 h_p p2
    have h_p := lt_of_cell p0
    have q0 := bat hb14 h_q q0
    have q1 := bat hb14 h_q q1
    have q2 := bat hb14 h_q q2
    have h_q := lt_of_cell q0
    have bb_w14 := below_trans bb_w13 hb14
    clear hb14 bb_w13
    obtain ⟨w15, hV⟩ : ∃ V, V = w14.alloc (.cells #[.int .i64 1, .int .i64 0, .string ⟨#[]⟩] 27) := ⟨_, rfl⟩
    have r0 : w15.cell? ⟨w14.heap.size, 0, none⟩ = some (.int .i64 1) := by rw [hV]; simp [go_sem]
    have r1 : w15.cell? ⟨w14.heap.size, 1, none⟩ = some (.int .i64 0) := by rw [hV]; simp [go_sem]
    have r2 : w15.cell? ⟨w14.heap.size, 2, none⟩ = some (.string ⟨#[]⟩) := by rw [hV]; simp [go_sem]
    have hbv : Below w14.heap.size w14 w15 := by rw [hV]; exact below_alloc
    go_upto_region 7 with (fail)
    rw [← hV]
    obtain ⟨G_r, hG⟩ : ∃ G, w14.heap.size = G := ⟨_, rfl⟩
    rw [hG] at r0 r1 r2
    rw [hG]
    clear hV hG
    have N_Ea := hide (N_Ea.out.below hbv)
    have N_Eb := hide (N_Eb.out.below hbv)
    have VS := hide (VS.out.below hbv)
    have N_L3 := hide (N_L3.out.below hbv)
    have p0 := bat hbv h_p p0
    have p1 := bat hbv h_p p1
    have p2 := bat hbv h_p p2
    have h_p := lt_of_cell p0
    have q0 := bat hbv h_q q0
    have q1 := bat hbv h_q q1
    have q2 := bat hbv h_q q2
    have h_q := lt_of_cell q0
    have bb_w15 := below_trans bb_w14 hbv
    clear hbv bb_w14
    have h_r := lt_of_cell r0
    clear N_L3
    clear F1
    go_wp2_with fail
    refine (both_any 13 (by simp [I64]) _ _ _ _ _ N_Ea.out _ _ _ _ N_Eb.out (by rw [l_Ea.out]; decide) (by rw [l_Eb.out]; decide)).mono ?_
    rintro e w16 ⟨hnd, hb16⟩
    obtain ⟨L4, h_L4⟩ : ∃ q, (Ea ++ Eb) ++ [opNode 13] = q := ⟨_, rfl⟩
    rw [h_L4] at hnd
    obtain ⟨A_L4, c_L4, rfl, hst⟩ := hnd
    have E_L4 := hide h_L4
    have N_L4 := hide hst.inn
    clear h_L4 hst
    have N_Ea := hide (N_Ea.out.below hb16)
    have N_Eb := hide (N_Eb.out.below hb16)
    have VS := hide (VS.out.below hb16)
    have p0 := bat hb16 h_p p0
    have p1 := bat hb16 h_p p1
    have p2 := bat hb16 h_p p2
    have h_p := lt_of_cell p0
    have q0 := bat hb16 h_q q0
    have q1 := bat hb16 h_q q1
    have q2 := bat hb16 h_q q2
    have h_q := lt_of_cell q0
    have r0 := bat hb16 h_r r0
    have r1 := bat hb16 h_r r1
    have r2 := bat hb16 h_r r2
    have h_r := lt_of_cell r0
    have bb_w16 := below_trans bb_w15 hb16
    clear hb16 bb_w15
    have F1 : evalS L4 cols5 vs zs3 = (0, ⟨1, 1, ⟨#[]⟩⟩) := by rw [← E_L4.out, ← E_Ea.out, ← E_Eb.out]; exact X4.out
    go_wp2_with fail
    refine (valueE_any _ _ _ _ L4 N_L4.out (hw.below bb_w16) _ _ _ vs VS.out).mono ?_
    rintro e w17 ⟨rfl, hb17⟩
    rw [F1]
    simp only [Val.cells]
    have N_Ea := hide (N_Ea.out.below hb17)
    have N_Eb := hide (N_Eb.out.below hb17)
    have VS := hide (VS.out.below hb17)
    have N_L4 := hide (N_L4.out.below hb17)
    have p0 := bat hb17 h_p p0
    have p1 := bat hb17 h_p p1
    have p2 := bat hb17 h_p p2
    have h_p := lt_of_cell p0
    have q0 := bat hb17 h_q q0
    have q1 := bat hb17 h_q q1
    have q2 := bat hb17 h_q q2
    have h_q := lt_of_cell q0
    have r0 := bat hb17 h_r r0
    have r1 := bat hb17 h_r r1
    have r2 := bat hb17 h_r r2
    have h_r := lt_of_cell r0
    have bb_w17 := below_trans bb_w16 hb17
    clear hb17 bb_w16
    obtain ⟨w18, hV⟩ : ∃ V, V = w17.alloc (.cells #[.int .i64 1, .int .i64 1, .string ⟨#[]⟩] 27) := ⟨_, rfl⟩
    have s0 : w18.cell? ⟨w17.heap.size, 0, none⟩ = some (.int .i64 1) := by rw [hV]; simp [go_sem]
    have s1 : w18.cell? ⟨w17.heap.size, 1, none⟩ = some (.int .i64 1) := by rw [hV]; simp [go_sem]
    have s2 : w18.cell? ⟨w17.heap.size, 2, none⟩ = some (.string ⟨#[]⟩) := by rw [hV]; simp [go_sem]
    have hbv : Below w17.heap.size w17 w18 := by rw [hV]; exact below_alloc
    go_upto_region 8 with (fail)
    rw [← hV]
    obtain ⟨G_s, hG⟩ : ∃ G, w17.heap.size = G := ⟨_, rfl⟩
    rw [hG] at s0 s1 s2
    rw [hG]
    clear hV hG
    have N_Ea := hide (N_Ea.out.below hbv)
    have N_Eb := hide (N_Eb.out.below hbv)
    have VS := hide (VS.out.below hbv)
    have N_L4 := hide (N_L4.out.below hbv)
    have p0 := bat hbv h_p p0
    have p1 := bat hbv h_p p1
    have p2 := bat hbv h_p p2
    have h_p := lt_of_cell p0
    have q0 := bat hbv h_q q0
    have q1 := bat hbv h_q q1
    have q2 := bat hbv h_q q2
    have h_q := lt_of_cell q0
    have r0 := bat hbv h_r r0
    have r1 := bat hbv h_r r1
    have r2 := bat hbv h_r r2
    have h_r := lt_of_cell r0
    have bb_w18 := below_trans bb_w17 hbv
    clear hbv bb_w17
    have h_s := lt_of_cell s0
    clear N_L4
    clear F1
    go_wp2_with fail
    refine (both_any 11 (by simp [I64]) _ _ _ _ _ N_Ea.out _ _ _ _ N_Eb.out (by rw [l_Ea.out]; decide) (by rw [l_Eb.out]; decide)).mono ?_
    rintro e w19 ⟨hnd, hb19⟩
    obtain ⟨L5, h_L5⟩ : ∃ q, (Ea ++ Eb) ++ [opNode 11] = q := ⟨_, rfl⟩
    rw [h_L5] at hnd
    obtain ⟨A_L5, c_L5, rfl, hst⟩ := hnd
    have E_L5 := hide h_L5
    have N_L5 := hide hst.inn
    clear h_L5 hst
    have N_Ea := hide (N_Ea.out.below hb19)
    have N_Eb := hide (N_Eb.out.below hb19)
    have VS := hide (VS.out.below hb19)
    have p0 := bat hb19 h_p p0
    have p1 := bat hb19 h_p p1
    have p2 := bat hb19 h_p p2
    have h_p := lt_of_cell p0
    have q0 := bat hb19 h_q q0
    have q1 := bat hb19 h_q q1
    have q2 := bat hb19 h_q q2
    have h_q := lt_of_cell q0
    have r0 := bat hb19 h_r r0
    have r1 := bat hb19 h_r r1
    have r2 := bat hb19 h_r r2
    have h_r := lt_of_cell r0
    have s0 := bat hb19 h_s s0
    have s1 := bat hb19 h_s s1
    have s2 := bat hb19 h_s s2
    have h_s := lt_of_cell s0
    have bb_w19 := below_trans bb_w18 hb19
    clear hb19 bb_w18
    have F1 : evalS L5 cols5 vs zs3 = (0, ⟨1, 0, ⟨#[]⟩⟩) := by rw [← E_L5.out, ← E_Ea.out, ← E_Eb.out]; exact X5.out
    go_wp2_with fail
    refine (valueE_any _ _ _ _ L5 N_L5.out (hw.below bb_w19) _ _ _ vs VS.out).mono ?_
    rintro e w20 ⟨rfl, hb20⟩
    rw [F1]
    simp only [Val.cells]
    have N_Ea := hide (N_Ea.out.below hb20)
    have N_Eb := hide (N_Eb.out.below hb20)
    have VS := hide (VS.out.below hb20)
    have N_L5 := hide (N_L5.out.below hb20)
    have p0 := bat hb20 h_p p0
    have p1 := bat hb20 h_p p1
    have p2 := bat hb20 h_p p2
    have h_p := lt_of_cell p0
    have q0 := bat hb20 h_q q0
    have q1 := bat hb20 h_q q1
    have q2 := bat hb20 h_q q2
    have h_q := lt_of_cell q0
    have r0 := bat hb20 h_r r0
    have r1 := bat hb20 h_r r1
    have r2 := bat hb20 h_r r2
    have h_r := lt_of_cell r0
    have s0 := bat hb20 h_s s0
    have s1 := bat hb20 h_s s1
    have s2 := bat hb20 h_s s2
    have h_s := lt_of_cell s0
    have bb_w20 := below_trans bb_w19 hb20
    clear hb20 bb_w19
    obtain ⟨w21, hV⟩ : ∃ V, V = w20.alloc (.cells #[.int .i64 1, .int .i64 0, .string ⟨#[]⟩] 27) := ⟨_, rfl⟩
    have t0 : w21.cell? ⟨w20.heap.size, 0, none⟩ = some (.int .i64 1) := by rw [hV]; simp [go_sem]
    have t1 : w21.cell? ⟨w20.heap.size, 1, none⟩ = some (.int .i64 0) := by rw [hV]; simp [go_sem]
    have t2 : w21.cell? ⟨w20.heap.size, 2, none⟩ = some (.string ⟨#[]⟩) := by rw [hV]; simp [go_sem]
    have hbv : Below w20.heap.size w20 w21 := by rw [hV]; exact below_alloc
    go_upto_region 9 with (fail)
    rw [← hV]
    obtain ⟨G_t, hG⟩ : ∃ G, w20.heap.size = G := ⟨_, rfl⟩
    rw [hG] at t0 t1 t2
    rw [hG]
    clear hV hG
    have N_Ea := hide (N_Ea.out.below hbv)
    have N_Eb := hide (N_Eb.out.below hbv)
    have VS := hide (VS.out.below hbv)
    have N_L5 := hide (N_L5.out.below hbv)
    have p0 := bat hbv h_p p0
    have p1 := bat hbv h_p p1
    have p2 := bat hbv h_p p2
    have h_p := lt_of_cell p0
    have q0 := bat hbv h_q q0
    have q1 := bat hbv h_q q1
    have q2 := bat hbv h_q q2
    have h_q := lt_of_cell q0
    have r0 := bat hbv h_r r0
    have r1 := bat hbv h_r r1
    have r2 := bat hbv h_r r2
    have h_r := lt_of_cell r0
    have s0 := bat hbv h_s s0
    have s1 := bat hbv h_s s1
    have s2 := bat hbv h_s s2
    have h_s := lt_of_cell s0
    have bb_w21 := below_trans bb_w20 hbv
    clear hbv bb_w20
    have h_t := lt_of_cell t0
    clear N_L5
    clear F1
    go_wp2_with fail
    refine (constant_any nullV ⟨by simp [nullV, I64], by simp [nullV, I64], by simp [nullV, Str, ByteArray.size]⟩ _).mono ?_
    rintro e w22 ⟨hnd, hb22⟩
    obtain ⟨En, h_En⟩ : ∃ q, [conNode nullV] = q := ⟨_, rfl⟩
    rw [h_En] at hnd
    obtain ⟨A_En, c_En, rfl, hst⟩ := hnd
    have E_En := hide h_En
    have N_En := hide hst.inn
    clear h_En hst
    have N_Ea := hide (N_Ea.out.below hb22)
    have N_Eb := hide (N_Eb.out.below hb22)
    have VS := hide (VS.out.below hb22)
    have p0 := bat hb22 h_p p0
    have p1 := bat hb22 h_p p1
    have p2 := bat hb22 h_p p2
    have h_p := lt_of_cell p0
    have q0 := bat hb22 h_q q0
    have q1 := bat hb22 h_q q1
    have q2 := bat hb22 h_q q2
    have h_q := lt_of_cell q0
    have r0 := bat hb22 h_r r0
    have r1 := bat hb22 h_r r1
    have r2 := bat hb22 h_r r2
    have h_r := lt_of_cell r0
    have s0 := bat hb22 h_s s0
    have s1 := bat hb22 h_s s1
    have s2 := bat hb22 h_s s2
    have h_s := lt_of_cell s0
    have t0 := bat hb22 h_t t0
    have t1 := bat hb22 h_t t1
    have t2 := bat hb22 h_t t2
    have h_t := lt_of_cell t0
    have bb_w22 := below_trans bb_w21 hb22
    clear hb22 bb_w21
    have l_En : Hid (En.length = 1) := hide (by rw [← E_En.out]; rfl)
    go_wp2_with fail
    refine (both_any 12 (by simp [I64]) _ _ _ _ _ N_Ea.out _ _ _ _ N_En.out (by rw [l_Ea.out]; decide) (by rw [l_En.out]; decide)).mono ?_
    rintro e w23 ⟨hnd, hb23⟩
    obtain ⟨L6, h_L6⟩ : ∃ q, (Ea ++ En) ++ [opNode 12] = q := ⟨_, rfl⟩
    rw [h_L6] at hnd
    obtain ⟨A_L6, c_L6, rfl, hst⟩ := hnd
    have E_L6 := hide h_L6
    have N_L6 := hide hst.inn
    clear h_L6 hst
    have N_Ea := hide (N_Ea.out.below hb23)
    have N_Eb := hide (N_Eb.out.below hb23)
    have VS := hide (VS.out.below hb23)
    have N_En := hide (N_En.out.below hb23)
    have p0 := bat hb23 h_p p0
    have p1 := bat hb23 h_p p1
    have p2 := bat hb23 h_p p2
    have h_p := lt_of_cell p0
    have q0 := bat hb23 h_q q0
    have q1 := bat hb23 h_q q1
    have q2 := bat hb23 h_q q2
    have h_q := lt_of_cell q0
    have r0 := bat hb23 h_r r0
    have r1 := bat hb23 h_r r1
    have r2 := bat hb23 h_r r2
    have h_r := lt_of_cell r0
    have s0 := bat hb23 h_s s0
    have s1 := bat hb23 h_s s1
    have s2 := bat hb23 h_s s2
    have h_s := lt_of_cell s0
    have t0 := bat hb23 h_t t0
    have t1 := bat hb23 h_t t1
    have t2 := bat hb23 h_t t2
    have h_t := lt_of_cell t0
    have bb_w23 := below_trans bb_w22 hb23
    clear hb23 bb_w22
    have F1 : evalS L6 cols5 vs zs3 = (0, ⟨0, 0, ⟨#[]⟩⟩) := by rw [← E_L6.out, ← E_Ea.out, ← E_En.out]; exact X6.out
    go_wp2_with fail
    refine (valueE_any _ _ _ _ L6 N_L6.out (hw.below bb_w23) _ _ _ vs VS.out).mono ?_
    rintro e w24 ⟨rfl, hb24⟩
    rw [F1]
    simp only [Val.cells]
    have N_Ea := hide (N_Ea.out.below hb24)
    have N_Eb := hide (N_Eb.out.below hb24)
    have VS := hide (VS.out.below hb24)
    have N_En := hide (N_En.out.below hb24)
    have N_L6 := hide (N_L6.out.below hb24)
    have p0 := bat hb24 h_p p0
    have p1 := bat hb24 h_p p1
    have p2 := bat hb24 h_p p2
    have h_p := lt_of_cell p0
    have q0 := bat hb24 h_q q0
    have q1 := bat hb24 h_q q1
    have q2 := bat hb24 h_q q2
    have h_q := lt_of_cell q0
    have r0 := bat hb24 h_r r0
    have r1 := bat hb24 h_r r1
    have r2 := bat hb24 h_r r2
    have h_r := lt_of_cell r0
    have s0 := bat hb24 h_s s0
    have s1 := bat hb24 h_s s1
    have s2 := bat hb24 h_s s2
    have h_s := lt_of_cell s0
    have t0 := bat hb24 h_t t0
    have t1 := bat hb24 h_t t1
    have t2 := bat hb24 h_t t2
    have h_t := lt_of_cell t0
    have bb_w24 := below_trans bb_w23 hb24
    clear hb24 bb_w23
    obtain ⟨w25, hV⟩ : ∃ V, V = w24.alloc (.cells #[.int .i64 0, .int .i64 0, .string ⟨#[]⟩] 27) := ⟨_, rfl⟩
    have u0 : w25.cell? ⟨w24.heap.size, 0, none⟩ = some (.int .i64 0) := by rw [hV]; simp [go_sem]
    have u1 : w25.cell? ⟨w24.heap.size, 1, none⟩ = some (.int .i64 0) := by rw [hV]; simp [go_sem]
    have u2 : w25.cell? ⟨w24.heap.size, 2, none⟩ = some (.string ⟨#[]⟩) := by rw [hV]; simp [go_sem]
    have hbv : Below w24.heap.size w24 w25 := by rw [hV]; exact below_alloc
    go_upto_region 10 with (fail)
    rw [← hV]
    obtain ⟨G_u, hG⟩ : ∃ G, w24.heap.size = G := ⟨_, rfl⟩
    rw [hG] at u0 u1 u2
    rw [hG]
    clear hV hG
    have N_Ea := hide (N_Ea.out.below hbv)
    have N_Eb := hide (N_Eb.out.below hbv)
    have VS := hide (VS.out.below hbv)
    have N_En := hide (N_En.out.below hbv)
    have N_L6 := hide (N_L6.out.below hbv)
    have p0 := bat hbv h_p p0
    have p1 := bat hbv h_p p1
    have p2 := bat hbv h_p p2
    have h_p := lt_of_cell p0
    have q0 := bat hbv h_q q0
    have q1 := bat hbv h_q q1
    have q2 := bat hbv h_q q2
    have h_q := lt_of_cell q0
    have r0 := bat hbv h_r r0
    have r1 := bat hbv h_r r1
    have r2 := bat hbv h_r r2
    have h_r := lt_of_cell r0
    have s0 := bat hbv h_s s0
    have s1 := bat hbv h_s s1
    have s2 := bat hbv h_s s2
    have h_s := lt_of_cell s0
    have t0 := bat hbv h_t t0
    have t1 := bat hbv h_t t1
    have t2 := bat hbv h_t t2
    have h_t := lt_of_cell t0
    have bb_w25 := below_trans bb_w24 hbv
    clear hbv bb_w24
    have h_u := lt_of_cell u0
    clear N_L6
    clear F1
    clear N_Ea N_Eb VS N_En
    go_wp2_with fail
    refine (known_any _ (hw.below bb_w25)).mono ?_
    rintro e w99 ⟨rfl, hb99⟩
    go_wp2
    go_ret
    exact ⟨rfl, below_trans bb_w25 hb99⟩
  · go_wp2_with fail
    refine (both_any 12 (by simp [I64]) _ _ _ _ _ N_Ea.out _ _ _ _ N_Eb.out (by rw [l_Ea.out]; decide) (by rw [l_Eb.out]; decide)).mono ?_
    rintro e w7 ⟨hnd, hb7⟩
    obtain ⟨L1, h_L1⟩ : ∃ q, (Ea ++ Eb) ++ [opNode 12] = q := ⟨_, rfl⟩
    rw [h_L1] at hnd
    obtain ⟨A_L1, c_L1, rfl, hst⟩ := hnd
    have E_L1 := hide h_L1
    have N_L1 := hide hst.inn
    clear h_L1 hst
    have N_Ea := hide (N_Ea.out.below hb7)
    have N_Eb := hide (N_Eb.out.below hb7)
    have VS := hide (VS.out.below hb7)
    have bb_w7 := below_trans bb_w6 hb7
    clear hb7 bb_w6
    have F1 : evalS L1 cols5 vs zs3 = (0, ⟨1, 0, ⟨#[]⟩⟩) := by rw [← E_L1.out, ← E_Ea.out, ← E_Eb.out]; exact X1.out
    go_wp2_with fail
    refine (valueE_any _ _ _ _ L1 N_L1.out (hw.below bb_w7) _ _ _ vs VS.out).mono ?_
    rintro e w8 ⟨rfl, hb8⟩
    rw [F1]
    simp only [Val.cells]
    have N_Ea := hide (N_Ea.out.below hb8)
    have N_Eb := hide (N_Eb.out.below hb8)
    have VS := hide (VS.out.below hb8)
    have N_L1 := hide (N_L1.out.below hb8)
    have bb_w8 := below_trans bb_w7 hb8
    clear hb8 bb_w7
    obtain ⟨w9, hV⟩ : ∃ V, V = w8.alloc (.cells #[.int .i64 1, .int .i64 0, .string ⟨#[]⟩] 27) := ⟨_, rfl⟩
    have p0 : w9.cell? ⟨w8.heap.size, 0, none⟩ = some (.int .i64 1) := by rw [hV]; simp [go_sem]
    have p1 : w9.cell? ⟨w8.heap.size, 1, none⟩ = some (.int .i64 0) := by rw [hV]; simp [go_sem]
    have p2 : w9.cell? ⟨w8.heap.size, 2, none⟩ = some (.string ⟨#[]⟩) := by rw [hV]; simp [go_sem]
    have hbv : Below w8.heap.size w8 w9 := by rw [hV]; exact below_alloc
    go_upto_region 5 with (fail)
    rw [← hV]
    obtain ⟨G_p, hG⟩ : ∃ G, w8.heap.size = G := ⟨_, rfl⟩
    rw [hG] at p0 p1 p2
    rw [hG]
    clear hV hG
    have N_Ea := hide (N_Ea.out.below hbv)
    have N_Eb := hide (N_Eb.out.below hbv)
    have VS := hide (VS.out.below hbv)
    have N_L1 := hide (N_L1.out.below hbv)
    have bb_w9 := below_trans bb_w8 hbv
    clear hbv bb_w8
    have h_p := lt_of_cell p0
    clear N_L1
    clear F1
    go_wp2_with fail
    refine (both_any 10 (by simp [I64]) _ _ _ _ _ N_Ea.out _ _ _ _ N_Eb.out (by rw [l_Ea.out]; decide) (by rw [l_Eb.out]; decide)).mono ?_
    rintro e w10 ⟨hnd, hb10⟩
    obtain ⟨L2, h_L2⟩ : ∃ q, (Ea ++ Eb) ++ [opNode 10] = q := ⟨_, rfl⟩
    rw [h_L2] at hnd
    obtain ⟨A_L2, c_L2, rfl, hst⟩ := hnd
    have E_L2 := hide h_L2
    have N_L2 := hide hst.inn
    clear h_L2 hst
    have N_Ea := hide (N_Ea.out.below hb10)
    have N_Eb := hide (N_Eb.out.below hb10)
    have VS := hide (VS.out.below hb10)
    have p0 := bat hb10 h_p p0
    have p1 := bat hb10 h_p p1
    have p2 := bat hb10 h_p p2
    have h_p := lt_of_cell p0
    have bb_w10 := below_trans bb_w9 hb10
    clear hb10 bb_w9
    have F1 : evalS L2 cols5 vs zs3 = (0, ⟨1, 0, ⟨#[]⟩⟩) := by rw [← E_L2.out, ← E_Ea.out, ← E_Eb.out]; exact X2.out
    go_wp2_with fail
    refine (valueE_any _ _ _ _ L2 N_L2.out (hw.below bb_w10) _ _ _ vs VS.out).mono ?_
    rintro e w11 ⟨rfl, hb11⟩
    rw [F1]
    simp only [Val.cells]
    have N_Ea := hide (N_Ea.out.below hb11)
    have N_Eb := hide (N_Eb.out.below hb11)
    have VS := hide (VS.out.below hb11)
    have N_L2 := hide (N_L2.out.below hb11)
    have p0 := bat hb11 h_p p0
    have p1 := bat hb11 h_p p1
    have p2 := bat hb11 h_p p2
    have h_p := lt_of_cell p0
    have bb_w11 := below_trans bb_w10 hb11
    clear hb11 bb_w10
    obtain ⟨w12, hV⟩ : ∃ V, V = w11.alloc (.cells #[.int .i64 1, .int .i64 0, .string ⟨#[]⟩] 27) := ⟨_, rfl⟩
    have q0 : w12.cell? ⟨w11.heap.size, 0, none⟩ = some (.int .i64 1) := by rw [hV]; simp [go_sem]
    have q1 : w12.cell? ⟨w11.heap.size, 1, none⟩ = some (.int .i64 0) := by rw [hV]; simp [go_sem]
    have q2 : w12.cell? ⟨w11.heap.size, 2, none⟩ = some (.string ⟨#[]⟩) := by rw [hV]; simp [go_sem]
    have hbv : Below w11.heap.size w11 w12 := by rw [hV]; exact below_alloc
    go_upto_region 6 with (fail)
    rw [← hV]
    obtain ⟨G_q, hG⟩ : ∃ G, w11.heap.size = G := ⟨_, rfl⟩
    rw [hG] at q0 q1 q2
    rw [hG]
    clear hV hG
    have N_Ea := hide (N_Ea.out.below hbv)
    have N_Eb := hide (N_Eb.out.below hbv)
    have VS := hide (VS.out.below hbv)
    have N_L2 := hide (N_L2.out.below hbv)
    have p0 := bat hbv h_p p0
    have p1 := bat hbv h_p p1
    have p2 := bat hbv h_p p2
    have h_p := lt_of_cell p0
    have bb_w12 := below_trans bb_w11 hbv
    clear hbv bb_w11
    have h_q := lt_of_cell q0
    clear N_L2
    clear F1
    go_wp2_with fail
    refine (both_any 12 (by simp [I64]) _ _ _ _ _ N_Eb.out _ _ _ _ N_Ea.out (by rw [l_Eb.out]; decide) (by rw [l_Ea.out]; decide)).mono ?_
    rintro e w13 ⟨hnd, hb13⟩
    obtain ⟨L3, h_L3⟩ : ∃ q, (Eb ++ Ea) ++ [opNode 12] = q := ⟨_, rfl⟩
    rw [h_L3] at hnd
    obtain ⟨A_L3, c_L3, rfl, hst⟩ := hnd
    have E_L3 := hide h_L3
    have N_L3 := hide hst.inn
    clear h_L3 hst
    have N_Ea := hide (N_Ea.out.below hb13)
    have N_Eb := hide (N_Eb.out.below hb13)
    have VS := hide (VS.out.below hb13)
    have p0 := bat hb13 h_p p0
    have p1 := bat hb13 h_p p1
    have p2 := bat hb13 h_p p2
    have h_p := lt_of_cell p0
    have q0 := bat hb13 h_q q0
    have q1 := bat hb13 h_q q1
    have q2 := bat hb13 h_q q2
    have h_q := lt_of_cell q0
    have bb_w13 := below_trans bb_w12 hb13
    clear hb13 bb_w12
    have F1 : evalS L3 cols5 vs zs3 = (0, ⟨1, 1, ⟨#[]⟩⟩) := by rw [← E_L3.out, ← E_Eb.out, ← E_Ea.out]; exact X3.out
    go_wp2_with fail
    refine (valueE_any _ _ _ _ L3 N_L3.out (hw.below bb_w13) _ _ _ vs VS.out).mono ?_
    rintro e w14 ⟨rfl, hb14⟩
    rw [F1]
    simp only [Val.cells]
    have N_Ea := hide (N_Ea.out.below hb14)
    have N_Eb := hide (N_Eb.out.below hb14)
    have VS := hide (VS.out.below hb14)
    have N_L3 := hide (N_L3.out.below hb14)
    have p0 := bat hb14 h_p p0
    have p1 := bat hb14 h_p p1
    have p2 := bat hb14 h_p p2
    have h_p := lt_of_cell p0
    have q0 := bat hb14 h_q q0
    have q1 := bat hb14 h_q q1
    have q2 := bat hb14 h_q q2
    have h_q := lt_of_cell q0
    have bb_w14 := below_trans bb_w13 hb14
    clear hb14 bb_w13
    obtain ⟨w15, hV⟩ : ∃ V, V = w14.alloc (.cells #[.int .i64 1, .int .i64 1, .string ⟨#[]⟩] 27) := ⟨_, rfl⟩
    have r0 : w15.cell? ⟨w14.heap.size, 0, none⟩ = some (.int .i64 1) := by rw [hV]; simp [go_sem]
    have r1 : w15.cell? ⟨w14.heap.size, 1, none⟩ = some (.int .i64 1) := by rw [hV]; simp [go_sem]
    have r2 : w15.cell? ⟨w14.heap.size, 2, none⟩ = some (.string ⟨#[]⟩) := by rw [hV]; simp [go_sem]
    have hbv : Below w14.heap.size w14 w15 := by rw [hV]; exact below_alloc
    go_upto_region 7 with (fail)
    rw [← hV]
    obtain ⟨G_r, hG⟩ : ∃ G, w14.heap.size = G := ⟨_, rfl⟩
    rw [hG] at r0 r1 r2
    rw [hG]
    clear hV hG
    have N_Ea := hide (N_Ea.out.below hbv)
    have N_Eb := hide (N_Eb.out.below hbv)
    have VS := hide (VS.out.below hbv)
    have N_L3 := hide (N_L3.out.below hbv)
    have p0 := bat hbv h_p p0
    have p1 := bat hbv h_p p1
    have p2 := bat hbv h_p p2
    have h_p := lt_of_cell p0
    have q0 := bat hbv h_q q0
    have q1 := bat hbv h_q q1
    have q2 := bat hbv h_q q2
    have h_q := lt_of_cell q0
    have bb_w15 := below_trans bb_w14 hbv
    clear hbv bb_w14
    have h_r := lt_of_cell r0
    clear N_L3
    clear F1
    go_wp2_with fail
    refine (both_any 13 (by simp [I64]) _ _ _ _ _ N_Ea.out _ _ _ _ N_Eb.out (by rw [l_Ea.out]; decide) (by rw [l_Eb.out]; decide)).mono ?_
    rintro e w16 ⟨hnd, hb16⟩
    obtain ⟨L4, h_L4⟩ : ∃ q, (Ea ++ Eb) ++ [opNode 13] = q := ⟨_, rfl⟩
    rw [h_L4] at hnd
    obtain ⟨A_L4, c_L4, rfl, hst⟩ := hnd
    have E_L4 := hide h_L4
    have N_L4 := hide hst.inn
    clear h_L4 hst
    have N_Ea := hide (N_Ea.out.below hb16)
    have N_Eb := hide (N_Eb.out.below hb16)
    have VS := hide (VS.out.below hb16)
    have p0 := bat hb16 h_p p0
    have p1 := bat hb16 h_p p1
    have p2 := bat hb16 h_p p2
    have h_p := lt_of_cell p0
    have q0 := bat hb16 h_q q0
    have q1 := bat hb16 h_q q1
    have q2 := bat hb16 h_q q2
    have h_q := lt_of_cell q0
    have r0 := bat hb16 h_r r0
    have r1 := bat hb16 h_r r1
    have r2 := bat hb16 h_r r2
    have h_r := lt_of_cell r0
    have bb_w16 := below_trans bb_w15 hb16
    clear hb16 bb_w15
    have F1 : evalS L4 cols5 vs zs3 = (0, ⟨1, 0, ⟨#[]⟩⟩) := by rw [← E_L4.out, ← E_Ea.out, ← E_Eb.out]; exact X4.out
    go_wp2_with fail
    refine (valueE_any _ _ _ _ L4 N_L4.out (hw.below bb_w16) _ _ _ vs VS.out).mono ?_
    rintro e w17 ⟨rfl, hb17⟩
    rw [F1]
    simp only [Val.cells]
    have N_Ea := hide (N_Ea.out.below hb17)
    have N_Eb := hide (N_Eb.out.below hb17)
    have VS := hide (VS.out.below hb17)
    have N_L4 := hide (N_L4.out.below hb17)
    have p0 := bat hb17 h_p p0
    have p1 := bat hb17 h_p p1
    have p2 := bat hb17 h_p p2
    have h_p := lt_of_cell p0
    have q0 := bat hb17 h_q q0
    have q1 := bat hb17 h_q q1
    have q2 := bat hb17 h_q q2
    have h_q := lt_of_cell q0
    have r0 := bat hb17 h_r r0
    have r1 := bat hb17 h_r r1
    have r2 := bat hb17 h_r r2
    have h_r := lt_of_cell r0
    have bb_w17 := below_trans bb_w16 hb17
    clear hb17 bb_w16
    obtain ⟨w18, hV⟩ : ∃ V, V = w17.alloc (.cells #[.int .i64 1, .int .i64 0, .string ⟨#[]⟩] 27) := ⟨_, rfl⟩
    have s0 : w18.cell? ⟨w17.heap.size, 0, none⟩ = some (.int .i64 1) := by rw [hV]; simp [go_sem]
    have s1 : w18.cell? ⟨w17.heap.size, 1, none⟩ = some (.int .i64 0) := by rw [hV]; simp [go_sem]
    have s2 : w18.cell? ⟨w17.heap.size, 2, none⟩ = some (.string ⟨#[]⟩) := by rw [hV]; simp [go_sem]
    have hbv : Below w17.heap.size w17 w18 := by rw [hV]; exact below_alloc
    go_upto_region 8 with (fail)
    rw [← hV]
    obtain ⟨G_s, hG⟩ : ∃ G, w17.heap.size = G := ⟨_, rfl⟩
    rw [hG] at s0 s1 s2
    rw [hG]
    clear hV hG
    have N_Ea := hide (N_Ea.out.below hbv)
    have N_Eb := hide (N_Eb.out.below hbv)
    have VS := hide (VS.out.below hbv)
    have N_L4 := hide (N_L4.out.below hbv)
    have p0 := bat hbv h_p p0
    have p1 := bat hbv h_p p1
    have p2 := bat hbv h_p p2
    have h_p := lt_of_cell p0
    have q0 := bat hbv h_q q0
    have q1 := bat hbv h_q q1
    have q2 := bat hbv h_q q2
    have h_q := lt_of_cell q0
    have r0 := bat hbv h_r r0
    have r1 := bat hbv h_r r1
    have r2 := bat hbv h_r r2
    have h_r := lt_of_cell r0
    have bb_w18 := below_trans bb_w17 hbv
    clear hbv bb_w17
    have h_s := lt_of_cell s0
    clear N_L4
    clear F1
    go_wp2_with fail
    refine (both_any 11 (by simp [I64]) _ _ _ _ _ N_Ea.out _ _ _ _ N_Eb.out (by rw [l_Ea.out]; decide) (by rw [l_Eb.out]; decide)).mono ?_
    rintro e w19 ⟨hnd, hb19⟩
    obtain ⟨L5, h_L5⟩ : ∃ q, (Ea ++ Eb) ++ [opNode 11] = q := ⟨_, rfl⟩
    rw [h_L5] at hnd
    obtain ⟨A_L5, c_L5, rfl, hst⟩ := hnd
    have E_L5 := hide h_L5
    have N_L5 := hide hst.inn
    clear h_L5 hst
    have N_Ea := hide (N_Ea.out.below hb19)
    have N_Eb := hide (N_Eb.out.below hb19)
    have VS := hide (VS.out.below hb19)
    have p0 := bat hb19 h_p p0
    have p1 := bat hb19 h_p p1
    have p2 := bat hb19 h_p p2
    have h_p := lt_of_cell p0
    have q0 := bat hb19 h_q q0
    have q1 := bat hb19 h_q q1
    have q2 := bat hb19 h_q q2
    have h_q := lt_of_cell q0
    have r0 := bat hb19 h_r r0
    have r1 := bat hb19 h_r r1
    have r2 := bat hb19 h_r r2
    have h_r := lt_of_cell r0
    have s0 := bat hb19 h_s s0
    have s1 := bat hb19 h_s s1
    have s2 := bat hb19 h_s s2
    have h_s := lt_of_cell s0
    have bb_w19 := below_trans bb_w18 hb19
    clear hb19 bb_w18
    have F1 : evalS L5 cols5 vs zs3 = (0, ⟨1, 1, ⟨#[]⟩⟩) := by rw [← E_L5.out, ← E_Ea.out, ← E_Eb.out]; exact X5.out
    go_wp2_with fail
    refine (valueE_any _ _ _ _ L5 N_L5.out (hw.below bb_w19) _ _ _ vs VS.out).mono ?_
    rintro e w20 ⟨rfl, hb20⟩
    rw [F1]
    simp only [Val.cells]
    have N_Ea := hide (N_Ea.out.below hb20)
    have N_Eb := hide (N_Eb.out.below hb20)
    have VS := hide (VS.out.below hb20)
    have N_L5 := hide (N_L5.out.below hb20)
    have p0 := bat hb20 h_p p0
    have p1 := bat hb20 h_p p1
    have p2 := bat hb20 h_p p2
    have h_p := lt_of_cell p0
    have q0 := bat hb20 h_q q0
    have q1 := bat hb20 h_q q1
    have q2 := bat hb20 h_q q2
    have h_q := lt_of_cell q0
    have r0 := bat hb20 h_r r0
    have r1 := bat hb20 h_r r1
    have r2 := bat hb20 h_r r2
    have h_r := lt_of_cell r0
    have s0 := bat hb20 h_s s0
    have s1 := bat hb20 h_s s1
    have s2 := bat hb20 h_s s2
    have h_s := lt_of_cell s0
    have bb_w20 := below_trans bb_w19 hb20
    clear hb20 bb_w19
    obtain ⟨w21, hV⟩ : ∃ V, V = w20.alloc (.cells #[.int .i64 1, .int .i64 1, .string ⟨#[]⟩] 27) := ⟨_, rfl⟩
    have t0 : w21.cell? ⟨w20.heap.size, 0, none⟩ = some (.int .i64 1) := by rw [hV]; simp [go_sem]
    have t1 : w21.cell? ⟨w20.heap.size, 1, none⟩ = some (.int .i64 1) := by rw [hV]; simp [go_sem]
    have t2 : w21.cell? ⟨w20.heap.size, 2, none⟩ = some (.string ⟨#[]⟩) := by rw [hV]; simp [go_sem]
    have hbv : Below w20.heap.size w20 w21 := by rw [hV]; exact below_alloc
    go_upto_region 9 with (fail)
    rw [← hV]
    obtain ⟨G_t, hG⟩ : ∃ G, w20.heap.size = G := ⟨_, rfl⟩
    rw [hG] at t0 t1 t2
    rw [hG]
    clear hV hG
    have N_Ea := hide (N_Ea.out.below hbv)
    have N_Eb := hide (N_Eb.out.below hbv)
    have VS := hide (VS.out.below hbv)
    have N_L5 := hide (N_L5.out.below hbv)
    have p0 := bat hbv h_p p0
    have p1 := bat hbv h_p p1
    have p2 := bat hbv h_p p2
    have h_p := lt_of_cell p0
    have q0 := bat hbv h_q q0
    have q1 := bat hbv h_q q1
    have q2 := bat hbv h_q q2
    have h_q := lt_of_cell q0
    have r0 := bat hbv h_r r0
    have r1 := bat hbv h_r r1
    have r2 := bat hbv h_r r2
    have h_r := lt_of_cell r0
    have s0 := bat hbv h_s s0
    have s1 := bat hbv h_s s1
    have s2 := bat hbv h_s s2
    have h_s := lt_of_cell s0
    have bb_w21 := below_trans bb_w20 hbv
    clear hbv bb_w20
    have h_t := lt_of_cell t0
    clear N_L5
    clear F1
    go_wp2_with fail
    refine (constant_any nullV ⟨by simp [nullV, I64], by simp [nullV, I64], by simp [nullV, Str, ByteArray.size]⟩ _).mono ?_
    rintro e w22 ⟨hnd, hb22⟩
    obtain ⟨En, h_En⟩ : ∃ q, [conNode nullV] = q := ⟨_, rfl⟩
    rw [h_En] at hnd
    obtain ⟨A_En, c_En, rfl, hst⟩ := hnd
    have E_En := hide h_En
    have N_En := hide hst.inn
    clear h_En hst
    have N_Ea := hide (N_Ea.out.below hb22)
    have N_Eb := hide (N_Eb.out.below hb22)
    have VS := hide (VS.out.below hb22)
    have p0 := bat hb22 h_p p0
    have p1 := bat hb22 h_p p1
    have p2 := bat hb22 h_p p2
    have h_p := lt_of_cell p0
    have q0 := bat hb22 h_q q0
    have q1 := bat hb22 h_q q1
    have q2 := bat hb22 h_q q2
    have h_q := lt_of_cell q0
    have r0 := bat hb22 h_r r0
    have r1 := bat hb22 h_r r1
    have r2 := bat hb22 h_r r2
    have h_r := lt_of_cell r0
    have s0 := bat hb22 h_s s0
    have s1 := bat hb22 h_s s1
    have s2 := bat hb22 h_s s2
    have h_s := lt_of_cell s0
    have t0 := bat hb22 h_t t0
    have t1 := bat hb22 h_t t1
    have t2 := bat hb22 h_t t2
    have h_t := lt_of_cell t0
    have bb_w22 := below_trans bb_w21 hb22
    clear hb22 bb_w21
    have l_En : Hid (En.length = 1) := hide (by rw [← E_En.out]; rfl)
    go_wp2_with fail
    refine (both_any 12 (by simp [I64]) _ _ _ _ _ N_Ea.out _ _ _ _ N_En.out (by rw [l_Ea.out]; decide) (by rw [l_En.out]; decide)).mono ?_
    rintro e w23 ⟨hnd, hb23⟩
    obtain ⟨L6, h_L6⟩ : ∃ q, (Ea ++ En) ++ [opNode 12] = q := ⟨_, rfl⟩
    rw [h_L6] at hnd
    obtain ⟨A_L6, c_L6, rfl, hst⟩ := hnd
    have E_L6 := hide h_L6
    have N_L6 := hide hst.inn
    clear h_L6 hst
    have N_Ea := hide (N_Ea.out.below hb23)
    have N_Eb := hide (N_Eb.out.below hb23)
    have VS := hide (VS.out.below hb23)
    have N_En := hide (N_En.out.below hb23)
    have p0 := bat hb23 h_p p0
    have p1 := bat hb23 h_p p1
    have p2 := bat hb23 h_p p2
    have h_p := lt_of_cell p0
    have q0 := bat hb23 h_q q0
    have q1 := bat hb23 h_q q1
    have q2 := bat hb23 h_q q2
    have h_q := lt_of_cell q0
    have r0 := bat hb23 h_r r0
    have r1 := bat hb23 h_r r1
    have r2 := bat hb23 h_r r2
    have h_r := lt_of_cell r0
    have s0 := bat hb23 h_s s0
    have s1 := bat hb23 h_s s1
    have s2 := bat hb23 h_s s2
    have h_s := lt_of_cell s0
    have t0 := bat hb23 h_t t0
    have t1 := bat hb23 h_t t1
    have t2 := bat hb23 h_t t2
    have h_t := lt_of_cell t0
    have bb_w23 := below_trans bb_w22 hb23
    clear hb23 bb_w22
    have F1 : evalS L6 cols5 vs zs3 = (0, ⟨0, 0, ⟨#[]⟩⟩) := by rw [← E_L6.out, ← E_Ea.out, ← E_En.out]; exact X6.out
    go_wp2_with fail
    refine (valueE_any _ _ _ _ L6 N_L6.out (hw.below bb_w23) _ _ _ vs VS.out).mono ?_
    rintro e w24 ⟨rfl, hb24⟩
    rw [F1]
    simp only [Val.cells]
    have N_Ea := hide (N_Ea.out.below hb24)
    have N_Eb := hide (N_Eb.out.below hb24)
    have VS := hide (VS.out.below hb24)
    have N_En := hide (N_En.out.below hb24)
    have N_L6 := hide (N_L6.out.below hb24)
    have p0 := bat hb24 h_p p0
    have p1 := bat hb24 h_p p1
    have p2 := bat hb24 h_p p2
    have h_p := lt_of_cell p0
    have q0 := bat hb24 h_q q0
    have q1 := bat hb24 h_q q1
    have q2 := bat hb24 h_q q2
    have h_q := lt_of_cell q0
    have r0 := bat hb24 h_r r0
    have r1 := bat hb24 h_r r1
    have r2 := bat hb24 h_r r2
    have h_r := lt_of_cell r0
    have s0 := bat hb24 h_s s0
    have s1 := bat hb24 h_s s1
    have s2 := bat hb24 h_s s2
    have h_s := lt_of_cell s0
    have t0 := bat hb24 h_t t0
    have t1 := bat hb24 h_t t1
    have t2 := bat hb24 h_t t2
    have h_t := lt_of_cell t0
    have bb_w24 := below_trans bb_w23 hb24
    clear hb24 bb_w23
    obtain ⟨w25, hV⟩ : ∃ V, V = w24.alloc (.cells #[.int .i64 0, .int .i64 0, .string ⟨#[]⟩] 27) := ⟨_, rfl⟩
    have u0 : w25.cell? ⟨w24.heap.size, 0, none⟩ = some (.int .i64 0) := by rw [hV]; simp [go_sem]
    have u1 : w25.cell? ⟨w24.heap.size, 1, none⟩ = some (.int .i64 0) := by rw [hV]; simp [go_sem]
    have u2 : w25.cell? ⟨w24.heap.size, 2, none⟩ = some (.string ⟨#[]⟩) := by rw [hV]; simp [go_sem]
    have hbv : Below w24.heap.size w24 w25 := by rw [hV]; exact below_alloc
    go_upto_region 10 with (fail)
    rw [← hV]
    obtain ⟨G_u, hG⟩ : ∃ G, w24.heap.size = G := ⟨_, rfl⟩
    rw [hG] at u0 u1 u2
    rw [hG]
    clear hV hG
    have N_Ea := hide (N_Ea.out.below hbv)
    have N_Eb := hide (N_Eb.out.below hbv)
    have VS := hide (VS.out.below hbv)
    have N_En := hide (N_En.out.below hbv)
    have N_L6 := hide (N_L6.out.below hbv)
    have p0 := bat hbv h_p p0
    have p1 := bat hbv h_p p1
    have p2 := bat hbv h_p p2
    have h_p := lt_of_cell p0
    have q0 := bat hbv h_q q0
    have q1 := bat hbv h_q q1
    have q2 := bat hbv h_q q2
    have h_q := lt_of_cell q0
    have r0 := bat hbv h_r r0
    have r1 := bat hbv h_r r1
    have r2 := bat hbv h_r r2
    have h_r := lt_of_cell r0
    have s0 := bat hbv h_s s0
    have s1 := bat hbv h_s s1
    have s2 := bat hbv h_s s2
    have h_s := lt_of_cell s0
    have t0 := bat hbv h_t t0
    have t1 := bat hbv h_t t1
    have t2 := bat hbv h_t t2
    have h_t := lt_of_cell t0
    have bb_w25 := below_trans bb_w24 hbv
    clear hbv bb_w24
    have h_u := lt_of_cell u0
    clear N_L6
    clear F1
    clear N_Ea N_Eb VS N_En
    go_wp2_with fail
    refine (known_any _ (hw.below bb_w25)).mono ?_
    rintro e w99 ⟨rfl, hb99⟩
    go_wp2
    go_ret
    exact ⟨rfl, below_trans bb_w25 hb99⟩
end Go.Proofs.YtmnhahilbbnkkaaDoor
