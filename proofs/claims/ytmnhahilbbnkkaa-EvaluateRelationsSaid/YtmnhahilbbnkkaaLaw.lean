/-
  warehouselaw19.EvaluateRelations returns true.
-/
import Derived.Test.YtmnhahilbbnkkaaFill
import Derived.Test.YtmnhahilbbnkkaaLight
namespace Go.Proofs.Ytmnhahilbbnkkaa
open Go.RowKit
set_option linter.unusedSimpArgs false
set_option linter.unusedVariables false

theorem col_info : (Try.prog.info? 34).map (fun i => (i.zero, i.size, i.bytes)) = some (some (.agg #[.string ⟨#[]⟩, .int .i64 0, .bool false]), 3, 32) := by kernel_rfl
theorem cells_cols : ∀ {xs : List Col} {w : World} {S : Nat → Prop} {cs : List Value}, Cells w S cs xs → ∀ u ∈ cs, u.oneCell' = true
  | [], _, _, _, h, u, hu => by rw [show _ = [] from h] at hu; cases hu
  | x :: xs, _, _, _, ⟨c0, c1, rfl, h0, h1⟩, u, hu => by
    rcases List.mem_append.1 hu with h | h
    · have e : c0 = x.cells := h0.1
      rw [e] at h
      simp [Col.cells] at h
      rcases h with rfl | rfl | rfl <;> rfl
    · exact cells_cols h1 u h

theorem cells_col_any : ∀ {xs : List Col} {w w' : World} {S T : Nat → Prop} {cs : List Value}, Cells w S cs xs → Cells w' T cs xs
  | [], _, _, _, _, _, h => h
  | x :: xs, _, _, _, _, _, ⟨c0, c1, e, h0, h1⟩ => ⟨c0, c1, e, h0, cells_col_any h1⟩

theorem ty_frozen {w : World} {t g : Nat} (h : TyAt w t g) (o : Nat) : w.frozen? ⟨g, o, none⟩ = false := by
  obtain ⟨c, hc⟩ := h
  exact frozen_of_row w g o c t hc
theorem set_heap {w : World} {g o : Nat} {u : Value} {k : Nat} (hk : k ≠ g) : (w.setCell ⟨g, o, none⟩ u).heap[k]? = w.heap[k]? := by
  simp [World.setCell, Array.getElem?_modify, show ¬ g = k from fun e => hk e.symm]
theorem FreshEnts.setT {w w' : World} {v : Value} {zs : List Ent} {g o t : Nat} {u : Value} (h : FreshEnts w w' v zs) (hg : TyAt w' t g) (h1 : 37 ≠ t) (h2 : 42 ≠ t) : FreshEnts w (w'.setCell ⟨g, o, none⟩ u) v zs := by
  obtain ⟨cs, p1, p2⟩ := h
  refine ⟨cs, own_keep p1 (fun k hk => set_heap (TyAt.ne (own_ty p1 hk) hg h1)), (p2.keep (fun k hk => set_heap (TyAt.ne hk.2 hg h2))).mono fun k hk => ⟨hk.1, hk.2.set _ _ _⟩⟩
theorem col_keep {w w' : World} {A : Option Addr} {n c : Nat} {cols : List Col} {g o t : Nat} {u : Value} (h : Sl w' (New w w' 34) A n c cols) (hg : TyAt w' t g) (h1 : 34 ≠ t) :
    Sl (w'.setCell ⟨g, o, none⟩ u) (New w (w'.setCell ⟨g, o, none⟩ u) 34) A n c cols :=
  (h.keep (fun k hk => set_heap (TyAt.ne hk.2 hg h1))).mono fun k hk => ⟨hk.1, hk.2.set _ _ _⟩
/-- One column of a slice is written anew. -/
theorem col_change {w : World} {S : Nat → Prop} {g off n c k j : Nat} {cols : List Col} {u : Value} (h : Sl w S (some ⟨g, off, none⟩) n c cols) (hk : k < n) (hj : j < 3) (y : Col → Col)
    (hy : ∀ x : Col, x.ok → (y x).ok ∧ ∀ i (hi : i < 3), (Col.cells (y x))[i]'hi = if i = j then u else (Col.cells x)[i]'hi) :
    ∃ cols', Sl (w.setCell ⟨g, off + k * 3 + j, none⟩ u) S (some ⟨g, off, none⟩) n c (cols' : List Col) := by
  obtain ⟨b, o, e, hb, hat⟩ := h.2.2.2.2 (by omega)
  injection e with e
  injection e with e1 e2
  subst e1 e2
  have hkl : k < cols.length := by rw [h.1]; exact hk
  refine ⟨cols.set k (y (cols[k]'hkl)), by rw [List.length_set]; exact h.1, h.2.1, h.2.2.1, h.2.2.2.1, fun _ => ⟨_, _, rfl, hb, fun i hi => ?_⟩⟩
  have hil : i < cols.length := by simpa using hi
  obtain ⟨cs, ⟨rfl, hok⟩, hc⟩ := hat i hil
  have hc' : ∀ q (hq : q < 3), w.cell? ⟨g, off + i * 3 + q, none⟩ = some ((Col.cells cols[i])[q]'hq) := fun q hq => hc q hq
  by_cases hik : i = k
  · subst hik
    rw [List.getElem_set_self]
    refine ⟨_, ⟨rfl, (hy _ hok).1⟩, fun q hq => ?_⟩
    have hq3 : q < 3 := hq
    refine Eq.trans ?_ (congrArg some ((hy _ hok).2 q hq3).symm)
    show (w.setCell ⟨g, off + i * 3 + j, none⟩ u).cell? ⟨g, off + i * 3 + q, none⟩ = _
    by_cases hqj : q = j
    · subst hqj
      rw [if_pos rfl]
      exact set_same (hc' q hq3)
    · rw [if_neg hqj]
      exact set_far (hc' q hq3) (.inr (by omega))
  · rw [List.getElem_set_ne (fun e => hik e.symm)]
    refine ⟨_, ⟨rfl, hok⟩, fun q hq => ?_⟩
    have hq3 : q < 3 := hq
    exact set_far (hc' q hq3) (.inr (by show off + i * 3 + q ≠ off + k * 3 + j; omega))
theorem col_kind {x : Col} {d : Int} (h : x.ok) (hd : I64 d) : (Col.mk x.name d x.nullable).ok ∧ ∀ i (hi : i < 3), (Col.cells (Col.mk x.name d x.nullable))[i]'hi = if i = 1 then .int .i64 d else (Col.cells x)[i]'hi :=
  ⟨⟨h.1, hd⟩, fun i hi => by
    match i, hi with
    | 0, _ => rfl
    | 1, _ => rfl
    | 2, _ => rfl⟩
theorem col_null {x : Col} (h : x.ok) : (Col.mk x.name x.kind false).ok ∧ ∀ i (hi : i < 3), (Col.cells (Col.mk x.name x.kind false))[i]'hi = if i = 2 then .bool false else (Col.cells x)[i]'hi :=
  ⟨h, fun i hi => by
    match i, hi with
    | 0, _ => rfl
    | 1, _ => rfl
    | 2, _ => rfl⟩
/-- The first entry's count is written anew. -/
theorem FreshEnts.count {w w' : World} {v : Value} {z : Ent} {zs : List Ent} (h : FreshEnts w w' v (z :: zs)) (d : Int) (hd : I64 d) :
    ∃ g c, v = .slice (some ⟨g, 0, none⟩) (zs.length + 1) c ∧ w.heap.size ≤ g ∧ TyAt w' 37 g ∧ (∃ u, w'.cell? ⟨g, 1, none⟩ = some u) ∧ FreshEnts w (w'.setCell ⟨g, 1, none⟩ (.int .i64 d)) v (⟨z.row, d⟩ :: zs) := by
  obtain ⟨cs, p1, c0, c1, rfl, ⟨A, n, c, rfl, hs, hi⟩, p2⟩ := h
  rcases p1.2 with ⟨_, e⟩ | ⟨g, cap, cur, rfl, hg, hh, h1, h2, h3, h4⟩
  · simp at e
  have hty : TyAt w' 37 g := ⟨cur, hh⟩
  have hne : ∀ k, New w w' 42 k → (w'.setCell ⟨g, 1, none⟩ (.int .i64 d)).heap[k]? = w'.heap[k]? := fun k hk => set_heap (TyAt.ne hk.2 hty (by decide))
  have hm : ∀ k, New w w' 42 k → New w (w'.setCell ⟨g, 1, none⟩ (.int .i64 d)) 42 k := fun k hk => ⟨hk.1, hk.2.set _ _ _⟩
  have hc1 : cur.toList[1]? = some (.int .i64 z.count) := by
    have h5 := congrArg (fun l => l[1]?) h4
    simp only [List.getElem?_take] at h5
    rw [if_pos (by simp; omega)] at h5
    rw [h5]; rfl
  refine ⟨g, cap, rfl, hg, hty, ⟨_, (cell_of_row w' g 1 cur _ (0, 0) hh).trans (by rw [← Array.getElem?_toList]; exact hc1)⟩, [.slice A n c, .int .i64 d] ++ c1, ⟨?_, .inr ⟨g, cap, cur.setIfInBounds 1 (.int .i64 d), rfl, hg, ?_, h1, h2, by simpa using h3, ?_⟩⟩, ⟨_, _, rfl, ⟨A, n, c, rfl, (hs.keep hne).mono hm, hd⟩, (p2.keep hne).mono hm⟩⟩
  · have := p1.1
    simpa using this
  · simp [World.setCell, Array.getElem?_modify, hh]
  · rw [Array.toList_setIfInBounds, List.take_set, show ((⟨z.row, d⟩ : Ent) :: zs).length = (z :: zs).length from rfl, h4]
    rfl
theorem FreshEnts.count' {w w' : World} {v : Value} {zs : List Ent} (h : FreshEnts w w' v zs) (hz : ¬ zs.length = 0) (d : Int) (hd : I64 d) :
    ∃ g c, v = .slice (some ⟨g, 0, none⟩) zs.length c ∧ w.heap.size ≤ g ∧ TyAt w' 37 g ∧ (∃ u, w'.cell? ⟨g, 1, none⟩ = some u) ∧ ∃ ys : List Ent, ys.length = zs.length ∧ FreshEnts w (w'.setCell ⟨g, 1, none⟩ (.int .i64 d)) v ys := by
  match zs, h, hz with
  | [], _, hz => exact absurd rfl hz
  | z :: zs, h, _ =>
    obtain ⟨g, c, e, h1, h2, h3, h4⟩ := h.count d hd
    exact ⟨g, c, e, h1, h2, h3, ⟨z.row, d⟩ :: zs, rfl, h4⟩

set_option maxHeartbeats 8000000 in
set_option maxRecDepth 100000 in
theorem law_any (w : World) (A A' A'' A2 : Option Addr) (n n' n'' c c' c'' n2 c2 : Nat) (r : Rel) (hx : In w A n c r.columns) (hy : In w A'' n'' c'' r.rows) (l : List Int) (hl : In w A2 n2 c2 l) (m : Int) :
    Calls Try.prog 3 #[.agg #[.string r.name, .slice A n c, .slice A' n' c', .slice A'' n'' c''], .slice A2 n2 c2, .int .i64 m] w fun e w' => e = .returned (.bool true) ∧ Below w.heap.size w w' := by
  obtain ⟨i0, hi, hz0, hz1, hz2⟩ := info_parts col_info
  obtain ⟨v7, hv7, hv70, hv71⟩ := and_ex m 7 (by omega)
  have hv7' : bits BinOp.and IntKind.i64 m 7 = v7 := hv7
  have hw7 : IntKind.i64.wrap (1 + v7) = 1 + v7 := IntWalk.i64_in _ (by omega)
  obtain ⟨a, ha, ha0, ha1⟩ := and_ex (m / 8) 3 (by omega)
  have ha' : bits BinOp.and IntKind.i64 (m / 8) 3 = a := ha
  obtain ⟨q, hq, hq3⟩ : ∃ q : Nat, a % 3 = (q : Int) ∧ q < 3 := ⟨(a % 3).toNat, by omega, by omega⟩
  have hq' : Int.tmod a 3 = (q : Int) := (Int.tmod_eq_emod_of_nonneg ha0).trans hq
  have q0 : (0 : Int) ≤ (q : Int) := by omega
  have q1 : (q : Int) < 3 := by omega
  obtain ⟨t, ht, ht0, ht1⟩ := and_ex (m / 32) 7 (by omega)
  have ht' : bits BinOp.and IntKind.i64 (m / 32) 7 = t := ht
  obtain ⟨k', hk', hk0', hk1'⟩ := and_ex (m / 256) 3 (by omega)
  obtain ⟨k, rfl⟩ := Int.eq_ofNat_of_zero_le hk0'
  have hk : bits BinOp.and IntKind.i64 (m / 256) 3 = (k : Int) := hk'
  have hk4 : k < 4 := by omega
  have k0 : (0 : Int) ≤ (k : Int) := by omega
  have k1 : (k : Int) < 4 := by omega
  have kw : IntKind.i64.wrap ((k : Int) - 1) = (k : Int) - 1 := IntWalk.i64_in _ (by omega)
  obtain ⟨d, hd, hd0, hd1⟩ := and_ex (m / 1024) 7 (by omega)
  have hd' : bits BinOp.and IntKind.i64 (m / 1024) 7 = d := hd
  clear hv7 ha ht hk' hd hk0' hk1'
  have HLt := hide (light_any (w.alloc (.cells #[.string r.name, .slice A n c, .slice A' n' c', .slice A'' n'' c''] 26)) A A' A'' n n' n'' c c' c'' r (hx.below below_alloc) (hy.below below_alloc))
  go_enter Try.func3, Try.ntmps3
  go_wp2_with fail
  refine HLt.out.mono ?_
  rintro e w1 ⟨⟨b, rfl⟩, hb1⟩
  have hbb1 := below_trans below_alloc hb1
  have f0 : w1.cell? ⟨w.heap.size, 0, none⟩ = some (.string r.name) := bat hb1 (by simp) (by simp [go_sem])
  have f1 : w1.cell? ⟨w.heap.size, 1, none⟩ = some (.slice A n c) := bat hb1 (by simp) (by simp [go_sem])
  have f2 : w1.cell? ⟨w.heap.size, 2, none⟩ = some (.slice A' n' c') := bat hb1 (by simp) (by simp [go_sem])
  have f3 : w1.cell? ⟨w.heap.size, 3, none⟩ = some (.slice A'' n'' c'') := bat hb1 (by simp) (by simp [go_sem])
  have hs1 : w.heap.size < w1.heap.size := by have := hb1.size; simp at this; omega
  clear hb1 HLt
  cases b
  · go_wp2_with fail
    refine (plain_any _).mono ?_
    rintro e w2 ⟨rfl, hb2⟩
    have hbb2 := below_trans hbb1 hb2
    go_wp2
    go_ret
    exact ⟨rfl, hbb2⟩
  go_wp2_with fail
  refine (filled_any w1 A2 n2 c2 l (hl.below hbb1) (1 + v7) (by omega) (by omega)).mono ?_
  rintro e w2 ⟨⟨g, rfl, hg, hR, hj⟩, hb2⟩
  obtain ⟨nm, A4, cols, v, zs, e0, e1, e2, e3, hc, hgood, hf⟩ := hj q hq3
  obtain ⟨A5, c5, rfl, _⟩ := hf.sl
  have hbb2 := below_trans hbb1 hb2
  have hs2 : w.heap.size < w2.heap.size := by have := hb2.size; omega
  have HR := hide hR
  have HC := hide hc
  have HF := hide hf
  clear hj hR hc hf
  obtain ⟨cs, hcs, hsrc⟩ := Sl.cells HC.out
  have hA4 : A4 = none → 4 = 0 := fun h => by have := HC.out.2.2.2.1 h; omega
  have h1s := cells_cols hcs
  obtain ⟨W, hW⟩ : ∃ W, w2.alloc (.cells #[.string nm, .slice A4 4 4, .slice none 0 0, .slice A5 zs.length c5] 26) = W := ⟨_, rfl⟩
  have hbW : Below w2.heap.size w2 W := by rw [← hW]; exact below_alloc
  have hszW : W.heap.size = w2.heap.size + 1 := by rw [← hW]; simp
  have rb7 : RowBlk W w2.heap.size 26 4 := by rw [← hW]; exact RowBlk.made w2 _ _ 4 rfl
  have p0 : W.cell? ⟨w2.heap.size, 0, none⟩ = some (.string nm) := by rw [← hW]; simp [go_sem]
  have p1 : W.cell? ⟨w2.heap.size, 1, none⟩ = some (.slice A4 4 4) := by rw [← hW]; simp [go_sem]
  have p2 : W.cell? ⟨w2.heap.size, 2, none⟩ = some (.slice none 0 0) := by rw [← hW]; simp [go_sem]
  have p3 : W.cell? ⟨w2.heap.size, 3, none⟩ = some (.slice A5 zs.length c5) := by rw [← hW]; simp [go_sem]
  have HSRC : Hid (Src W 3 A4 4 cs) := hide ⟨hsrc.1, fun h0 => by
    obtain ⟨b', o', e, hcc⟩ := hsrc.2 h0
    refine ⟨b', o', e, fun j u hu => ?_⟩
    have hcj := hcc j u hu
    exact (hbW.cell (p := ⟨b', o' + j, none⟩) (block_lt_of_cell hcj)).trans hcj⟩
  have HCS := hide hcs
  have b7 : w2.heap.size < W.heap.size := by omega
  have hwW : w1.heap.size ≤ W.heap.size := by have := hb2.size; omega
  have hg12 := hb2.size
  have HP := hide hW
  clear hW hcs hsrc
  by_cases t4 : 4 ≤ t
  · go_wp2_with (at_builtin; rw [HP.out]; refine wpList_append_src _ rfl (.const (.slice none 0 0)) (.tmp 24) 22 rfl w1.heap.size 34 i0 _ 3 32 Try.underlying22 hi hz0 hz1 hz2 rfl (by decide) (.slice none 0 0) 0 [] rfl (World.ownsRow_nil _ _ _ _) A4 4 4 cs rfl hA4 HSRC.out h1s (by simp only [maxLen]; omega) (by omega) hwW ?_; intro v1 w3 hown1 hg1 hat1; have hb3 : Below W.heap.size W w3 := (Below.refl _ _).grown hg1 (Nat.le_refl _) (by simp [Value.ownBlock]); have hown1' : w3.ownsRow w1.heap.size 34 3 v1 4 cs := hown1; obtain ⟨A1, c1, rfl, hsl1, _⟩ := sl_of_own (S := fun _ => False) (T := New w1 w3 34) hown1' (cells_col_any HCS.out) (fun _ h => h.elim) HC.out.1 (fun g hg ht => ⟨hg, ht⟩); have hcap := hsl1.2.1; obtain ⟨gc, oc, rfl, hgc, hat⟩ := hsl1.2.2.2.2 (by omega); have hty7 := (rb7.below hb3).ty; have hne : gc ≠ w2.heap.size := TyAt.ne hgc.2 hty7 (by decide); have r0 := bat hb3 b7 p0; have r1 := bat hb3 b7 p1; have r2 := bat hb3 b7 p2; have r3 := bat hb3 b7 p3; have z7 := (rb7.below hb3).frozen 1; have hcl := hsl1.1; have hbW3 := (hb2.trans ((hbW.mono hb2.size))).trans (hb3.mono hwW); have hf3 := (HF.out.below hbW).below hb3; have HS1 := hide hsl1; skip; clear hat hown1 hown1' hg1 hat1)
    all_goals (try (exfalso; go_light; simp_all; done))

    have y0 : (w3.setCell ⟨w2.heap.size, 1, none⟩ (.slice (some ⟨gc, oc, none⟩) 4 c1)).cell? ⟨w2.heap.size, 0, none⟩ = some (.string nm) := set_far r0 (.inr (by omega))
    have y1 : (w3.setCell ⟨w2.heap.size, 1, none⟩ (.slice (some ⟨gc, oc, none⟩) 4 c1)).cell? ⟨w2.heap.size, 1, none⟩ = some (.slice (some ⟨gc, oc, none⟩) 4 c1) := set_same r1
    have y2 : (w3.setCell ⟨w2.heap.size, 1, none⟩ (.slice (some ⟨gc, oc, none⟩) 4 c1)).cell? ⟨w2.heap.size, 2, none⟩ = some (.slice none 0 0) := set_far r2 (.inr (by omega))
    have y3 : (w3.setCell ⟨w2.heap.size, 1, none⟩ (.slice (some ⟨gc, oc, none⟩) 4 c1)).cell? ⟨w2.heap.size, 3, none⟩ = some (.slice A5 zs.length c5) := set_far r3 (.inr (by omega))
    have hcol := col_keep (o := 1) (u := .slice (some ⟨gc, oc, none⟩) 4 c1) HS1.out hty7 (by decide)
    obtain ⟨cols6, hcols6⟩ : ∃ cols6, cols6 = cols := ⟨_, rfl⟩
    obtain ⟨rows6, hrows6⟩ : ∃ rows6, rows6 = zs := ⟨_, rfl⟩
    obtain ⟨Ar, cr, er, hr⟩ := (hf3.setT (o := 1) (u := .slice (some ⟨gc, oc, none⟩) 4 c1) hty7 (by decide) (by decide)).sl
    injection er with er1 er2 er3
    subst er1 er3
    have ic : In (w3.setCell ⟨w2.heap.size, 1, none⟩ (.slice (some ⟨gc, oc, none⟩) 4 c1)) (some ⟨gc, oc, none⟩) 4 c1 cols6 := by rw [hcols6]; exact In.of_sl hcol fun q hq => hq.2.lt
    have ir : In (w3.setCell ⟨w2.heap.size, 1, none⟩ (.slice (some ⟨gc, oc, none⟩) 4 c1)) A5 zs.length c5 rows6 := by rw [hrows6]; exact hr
    have hbw6 : Below w1.heap.size w1 (w3.setCell ⟨w2.heap.size, 1, none⟩ (.slice (some ⟨gc, oc, none⟩) 4 c1)) := hbW3.setCell hg12 _
    have hsz6 : w2.heap.size < (w3.setCell ⟨w2.heap.size, 1, none⟩ (.slice (some ⟨gc, oc, none⟩) 4 c1)).heap.size := by simp; have := hb3.size; omega
    obtain ⟨W6, hW6⟩ : ∃ W6, (w3.setCell ⟨w2.heap.size, 1, none⟩ (.slice (some ⟨gc, oc, none⟩) 4 c1)) = W6 := ⟨_, rfl⟩
    rw [hW6] at y0 y1 y2 y3 ic ir hbw6 hsz6
    rw [hW6]
    replace f0 := bat hbw6 hs1 f0
    replace f1 := bat hbw6 hs1 f1
    replace f2 := bat hbw6 hs1 f2
    replace f3 := bat hbw6 hs1 f3
    have hs6 : w.heap.size < W6.heap.size := by omega
    have hbb6 := below_trans hbb1 hbw6
    obtain ⟨er, her⟩ : ∃ er, relErr r = er := ⟨_, rfl⟩
    obtain ⟨ex, hex⟩ : ∃ ex, relErr ⟨nm, cols6, [], rows6⟩ = ex := ⟨_, rfl⟩
    have HA : Hid (∀ V, Below W6.heap.size W6 V → Calls Try.prog 7 #[.agg #[.string r.name, .slice A n c, .slice A' n' c', .slice A'' n'' c'']] V fun e w' => e = .returned (.int .i64 er) ∧ Below V.heap.size V w') := hide fun V hV => by
      rw [← her]
      exact rel_any V A A' A'' n n' n'' c c' c'' r (hx.below (below_trans hbb6 hV)) (hy.below (below_trans hbb6 hV))
    have HB : Hid (∀ V, Below W6.heap.size W6 V → Calls Try.prog 8 #[.agg #[.string r.name, .slice A n c, .slice A' n' c', .slice A'' n'' c'']] V fun e w' => e = .returned (.int .i64 er) ∧ Below V.heap.size V w') := hide fun V hV => by
      rw [← her]
      exact rel_ref V A A' A'' n n' n'' c c' c'' r (hx.below (below_trans hbb6 hV)) (hy.below (below_trans hbb6 hV))
    have HD : Hid (∀ V, Below W6.heap.size W6 V → Calls Try.prog 7 #[.agg #[.string nm, .slice (some ⟨gc, oc, none⟩) 4 c1, .slice none 0 0, .slice A5 zs.length c5]] V fun e w' => e = .returned (.int .i64 ex) ∧ Below V.heap.size V w') := hide fun V hV => by
      rw [← hex]
      exact rel_any V _ none _ _ 0 _ _ 0 _ ⟨nm, cols6, [], rows6⟩ (ic.below hV) (ir.below hV)
    have HE : Hid (∀ V, Below W6.heap.size W6 V → Calls Try.prog 8 #[.agg #[.string nm, .slice (some ⟨gc, oc, none⟩) 4 c1, .slice none 0 0, .slice A5 zs.length c5]] V fun e w' => e = .returned (.int .i64 ex) ∧ Below V.heap.size V w') := hide fun V hV => by
      rw [← hex]
      exact rel_ref V _ none _ _ 0 _ _ 0 _ ⟨nm, cols6, [], rows6⟩ (ic.below hV) (ir.below hV)
    clear ic ir her hex hW6
    have HK : Hid (∀ V, Below W6.heap.size W6 V → V.cell? ⟨w.heap.size, 0, none⟩ = some (.string r.name) ∧ V.cell? ⟨w.heap.size, 1, none⟩ = some (.slice A n c) ∧ V.cell? ⟨w.heap.size, 2, none⟩ = some (.slice A' n' c') ∧ V.cell? ⟨w.heap.size, 3, none⟩ = some (.slice A'' n'' c'') ∧ V.cell? ⟨w2.heap.size, 0, none⟩ = some (.string nm) ∧ V.cell? ⟨w2.heap.size, 1, none⟩ = some (.slice (some ⟨gc, oc, none⟩) 4 c1) ∧ V.cell? ⟨w2.heap.size, 2, none⟩ = some (.slice none 0 0) ∧ V.cell? ⟨w2.heap.size, 3, none⟩ = some (.slice A5 zs.length c5)) := hide fun V hV => ⟨bat hV hs6 f0, bat hV hs6 f1, bat hV hs6 f2, bat hV hs6 f3, bat hV hsz6 y0, bat hV hsz6 y1, bat hV hsz6 y2, bat hV hsz6 y3⟩
    go_region_held3 (fun V => V.cell? ⟨w.heap.size, 0, none⟩ = some (.string r.name) ∧ V.cell? ⟨w.heap.size, 1, none⟩ = some (.slice A n c) ∧ V.cell? ⟨w.heap.size, 2, none⟩ = some (.slice A' n' c') ∧ V.cell? ⟨w.heap.size, 3, none⟩ = some (.slice A'' n'' c'') ∧ V.cell? ⟨w2.heap.size, 0, none⟩ = some (.string nm) ∧ V.cell? ⟨w2.heap.size, 1, none⟩ = some (.slice (some ⟨gc, oc, none⟩) 4 c1) ∧ V.cell? ⟨w2.heap.size, 2, none⟩ = some (.slice none 0 0) ∧ V.cell? ⟨w2.heap.size, 3, none⟩ = some (.slice A5 zs.length c5)) (first | exact HK.out _ kk5 | exact HK.out _ kk4 | exact HK.out _ kk3 | exact HK.out _ kk2 | exact HK.out _ kk1 | exact HK.out _ (Below.refl _ _).drew | exact HK.out _ (Below.refl _ _) | go_keep) (first | (go_at_call 7; (with_reducible refine (HA.out _ ?_).mono ?_); exact (Below.refl _ _).drew; rintro e V1 ⟨rfl, hk1⟩; have kk1 := below_trans (Below.refl W6.heap.size W6).drew hk1) | (go_at_call 8; (with_reducible refine (HB.out _ ?_).mono ?_); exact kk1; rintro e V2 ⟨rfl, hk2⟩; have kk2 := below_trans kk1 hk2) | (go_at_call 7; (with_reducible refine (HD.out _ ?_).mono ?_); exact kk2; rintro e V3 ⟨rfl, hk3⟩; have kk3 := below_trans kk2 hk3) | (go_at_call 8; (with_reducible refine (HE.out _ ?_).mono ?_); exact kk3; rintro e V4 ⟨rfl, hk4⟩; have kk4 := below_trans kk3 hk4) | (go_at_call 5; refine (plain_any _).mono ?_; rintro e V5 ⟨rfl, hk5⟩; have kk5 := below_trans kk4 hk5))
    have hend := below_trans hbb6 kk5
    go_wp2
    go_ret
    exact ⟨rfl, hend⟩
  rcases (by omega : t = 0 ∨ t = 1 ∨ t = 2 ∨ t = 3) with rfl | rfl | rfl | rfl
  · go_wp2_with (at_builtin; rw [HP.out]; refine wpList_append_src _ rfl (.const (.slice none 0 0)) (.tmp 24) 22 rfl w1.heap.size 34 i0 _ 3 32 Try.underlying22 hi hz0 hz1 hz2 rfl (by decide) (.slice none 0 0) 0 [] rfl (World.ownsRow_nil _ _ _ _) A4 4 4 cs rfl hA4 HSRC.out h1s (by simp only [maxLen]; omega) (by omega) hwW ?_; intro v1 w3 hown1 hg1 hat1; have hb3 : Below W.heap.size W w3 := (Below.refl _ _).grown hg1 (Nat.le_refl _) (by simp [Value.ownBlock]); have hown1' : w3.ownsRow w1.heap.size 34 3 v1 4 cs := hown1; obtain ⟨A1, c1, rfl, hsl1, _⟩ := sl_of_own (S := fun _ => False) (T := New w1 w3 34) hown1' (cells_col_any HCS.out) (fun _ h => h.elim) HC.out.1 (fun g hg ht => ⟨hg, ht⟩); have hcap := hsl1.2.1; obtain ⟨gc, oc, rfl, hgc, hat⟩ := hsl1.2.2.2.2 (by omega); have hty7 := (rb7.below hb3).ty; have hne : gc ≠ w2.heap.size := TyAt.ne hgc.2 hty7 (by decide); have r0 := bat hb3 b7 p0; have r1 := bat hb3 b7 p1; have r2 := bat hb3 b7 p2; have r3 := bat hb3 b7 p3; have z7 := (rb7.below hb3).frozen 1; have hcl := hsl1.1; have hbW3 := (hb2.trans ((hbW.mono hb2.size))).trans (hb3.mono hwW); have hf3 := (HF.out.below hbW).below hb3; have HS1 := hide hsl1; have hl0 : k < cols.length := (by omega); obtain ⟨cc, hrd, hcc⟩ := hat k hl0; have hl3 : 1 < cc.length := (by rw [Rep.len hrd]; show 1 < 3; omega); have x1 : w3.cell? ⟨gc, oc + k * 3 + 1, none⟩ = some (cc[1]'hl3) := hcc 1 hl3; have x1' := set_far (b' := w2.heap.size) (o' := 1) (v := (.slice (some ⟨gc, oc, none⟩) 4 c1)) x1 (.inl hne); have xz := ty_frozen (hgc.2.set w2.heap.size 1 (.slice (some ⟨gc, oc, none⟩) 4 c1)) (oc + k * 3 + 1); clear x1 hcc hrd; clear hat hown1 hown1' hg1 hat1)
    all_goals (try (exfalso; go_light; simp_all; done))

    have y0 : ((w3.setCell ⟨w2.heap.size, 1, none⟩ (.slice (some ⟨gc, oc, none⟩) 4 c1)).setCell ⟨gc, oc + k * 3 + 1, none⟩ (.int .i64 d)).cell? ⟨w2.heap.size, 0, none⟩ = some (.string nm) := set_far (set_far r0 (.inr (by omega))) (.inl hne.symm)
    have y1 : ((w3.setCell ⟨w2.heap.size, 1, none⟩ (.slice (some ⟨gc, oc, none⟩) 4 c1)).setCell ⟨gc, oc + k * 3 + 1, none⟩ (.int .i64 d)).cell? ⟨w2.heap.size, 1, none⟩ = some (.slice (some ⟨gc, oc, none⟩) 4 c1) := set_far (set_same r1) (.inl hne.symm)
    have y2 : ((w3.setCell ⟨w2.heap.size, 1, none⟩ (.slice (some ⟨gc, oc, none⟩) 4 c1)).setCell ⟨gc, oc + k * 3 + 1, none⟩ (.int .i64 d)).cell? ⟨w2.heap.size, 2, none⟩ = some (.slice none 0 0) := set_far (set_far r2 (.inr (by omega))) (.inl hne.symm)
    have y3 : ((w3.setCell ⟨w2.heap.size, 1, none⟩ (.slice (some ⟨gc, oc, none⟩) 4 c1)).setCell ⟨gc, oc + k * 3 + 1, none⟩ (.int .i64 d)).cell? ⟨w2.heap.size, 3, none⟩ = some (.slice A5 zs.length c5) := set_far (set_far r3 (.inr (by omega))) (.inl hne.symm)
    have hcol := col_keep (o := 1) (u := (.slice (some ⟨gc, oc, none⟩) 4 c1)) HS1.out hty7 (by decide)
    have hd64 : I64 d := by unfold I64; omega
    obtain ⟨cols6, hcol6⟩ := col_change (j := 1) (u := .int .i64 d) hcol hk4 (by decide) (fun x => ⟨x.name, d, x.nullable⟩) (fun x hx => col_kind hx hd64)
    obtain ⟨rows6, hrows6⟩ : ∃ rows6, rows6 = zs := ⟨_, rfl⟩
    obtain ⟨Ar, cr, er, hr⟩ := ((hf3.setT (o := 1) (u := (.slice (some ⟨gc, oc, none⟩) 4 c1)) hty7 (by decide) (by decide)).setT (o := oc + k * 3 + 1) (u := .int .i64 d) (hgc.2.set _ _ _) (by decide) (by decide)).sl
    injection er with er1 er2 er3
    subst er1 er3

    have ic : In ((w3.setCell ⟨w2.heap.size, 1, none⟩ (.slice (some ⟨gc, oc, none⟩) 4 c1)).setCell ⟨gc, oc + k * 3 + 1, none⟩ (.int .i64 d)) (some ⟨gc, oc, none⟩) 4 c1 cols6 := In.of_sl hcol6 fun q hq => Nat.lt_of_lt_of_le hq.2.lt (by simp)
    have ir : In ((w3.setCell ⟨w2.heap.size, 1, none⟩ (.slice (some ⟨gc, oc, none⟩) 4 c1)).setCell ⟨gc, oc + k * 3 + 1, none⟩ (.int .i64 d)) A5 zs.length c5 rows6 := by rw [hrows6]; exact hr
    have hbw6 : Below w1.heap.size w1 ((w3.setCell ⟨w2.heap.size, 1, none⟩ (.slice (some ⟨gc, oc, none⟩) 4 c1)).setCell ⟨gc, oc + k * 3 + 1, none⟩ (.int .i64 d)) := (hbW3.setCell hg12 _).setCell hgc.1 _
    have hsz6 : w2.heap.size < ((w3.setCell ⟨w2.heap.size, 1, none⟩ (.slice (some ⟨gc, oc, none⟩) 4 c1)).setCell ⟨gc, oc + k * 3 + 1, none⟩ (.int .i64 d)).heap.size := by simp; have := hb3.size; omega
    obtain ⟨W6, hW6⟩ : ∃ W6, ((w3.setCell ⟨w2.heap.size, 1, none⟩ (.slice (some ⟨gc, oc, none⟩) 4 c1)).setCell ⟨gc, oc + k * 3 + 1, none⟩ (.int .i64 d)) = W6 := ⟨_, rfl⟩
    rw [hW6] at y0 y1 y2 y3 ic ir hbw6 hsz6
    rw [hW6]
    replace f0 := bat hbw6 hs1 f0
    replace f1 := bat hbw6 hs1 f1
    replace f2 := bat hbw6 hs1 f2
    replace f3 := bat hbw6 hs1 f3
    have hs6 : w.heap.size < W6.heap.size := by omega
    have hbb6 := below_trans hbb1 hbw6
    obtain ⟨er, her⟩ : ∃ er, relErr r = er := ⟨_, rfl⟩
    obtain ⟨ex, hex⟩ : ∃ ex, relErr ⟨nm, cols6, [], rows6⟩ = ex := ⟨_, rfl⟩
    have HA : Hid (∀ V, Below W6.heap.size W6 V → Calls Try.prog 7 #[.agg #[.string r.name, .slice A n c, .slice A' n' c', .slice A'' n'' c'']] V fun e w' => e = .returned (.int .i64 er) ∧ Below V.heap.size V w') := hide fun V hV => by
      rw [← her]
      exact rel_any V A A' A'' n n' n'' c c' c'' r (hx.below (below_trans hbb6 hV)) (hy.below (below_trans hbb6 hV))
    have HB : Hid (∀ V, Below W6.heap.size W6 V → Calls Try.prog 8 #[.agg #[.string r.name, .slice A n c, .slice A' n' c', .slice A'' n'' c'']] V fun e w' => e = .returned (.int .i64 er) ∧ Below V.heap.size V w') := hide fun V hV => by
      rw [← her]
      exact rel_ref V A A' A'' n n' n'' c c' c'' r (hx.below (below_trans hbb6 hV)) (hy.below (below_trans hbb6 hV))
    have HD : Hid (∀ V, Below W6.heap.size W6 V → Calls Try.prog 7 #[.agg #[.string nm, .slice (some ⟨gc, oc, none⟩) 4 c1, .slice none 0 0, .slice A5 zs.length c5]] V fun e w' => e = .returned (.int .i64 ex) ∧ Below V.heap.size V w') := hide fun V hV => by
      rw [← hex]
      exact rel_any V _ none _ _ 0 _ _ 0 _ ⟨nm, cols6, [], rows6⟩ (ic.below hV) (ir.below hV)
    have HE : Hid (∀ V, Below W6.heap.size W6 V → Calls Try.prog 8 #[.agg #[.string nm, .slice (some ⟨gc, oc, none⟩) 4 c1, .slice none 0 0, .slice A5 zs.length c5]] V fun e w' => e = .returned (.int .i64 ex) ∧ Below V.heap.size V w') := hide fun V hV => by
      rw [← hex]
      exact rel_ref V _ none _ _ 0 _ _ 0 _ ⟨nm, cols6, [], rows6⟩ (ic.below hV) (ir.below hV)
    clear ic ir her hex hW6
    have HK : Hid (∀ V, Below W6.heap.size W6 V → V.cell? ⟨w.heap.size, 0, none⟩ = some (.string r.name) ∧ V.cell? ⟨w.heap.size, 1, none⟩ = some (.slice A n c) ∧ V.cell? ⟨w.heap.size, 2, none⟩ = some (.slice A' n' c') ∧ V.cell? ⟨w.heap.size, 3, none⟩ = some (.slice A'' n'' c'') ∧ V.cell? ⟨w2.heap.size, 0, none⟩ = some (.string nm) ∧ V.cell? ⟨w2.heap.size, 1, none⟩ = some (.slice (some ⟨gc, oc, none⟩) 4 c1) ∧ V.cell? ⟨w2.heap.size, 2, none⟩ = some (.slice none 0 0) ∧ V.cell? ⟨w2.heap.size, 3, none⟩ = some (.slice A5 zs.length c5)) := hide fun V hV => ⟨bat hV hs6 f0, bat hV hs6 f1, bat hV hs6 f2, bat hV hs6 f3, bat hV hsz6 y0, bat hV hsz6 y1, bat hV hsz6 y2, bat hV hsz6 y3⟩
    go_region_held3 (fun V => V.cell? ⟨w.heap.size, 0, none⟩ = some (.string r.name) ∧ V.cell? ⟨w.heap.size, 1, none⟩ = some (.slice A n c) ∧ V.cell? ⟨w.heap.size, 2, none⟩ = some (.slice A' n' c') ∧ V.cell? ⟨w.heap.size, 3, none⟩ = some (.slice A'' n'' c'') ∧ V.cell? ⟨w2.heap.size, 0, none⟩ = some (.string nm) ∧ V.cell? ⟨w2.heap.size, 1, none⟩ = some (.slice (some ⟨gc, oc, none⟩) 4 c1) ∧ V.cell? ⟨w2.heap.size, 2, none⟩ = some (.slice none 0 0) ∧ V.cell? ⟨w2.heap.size, 3, none⟩ = some (.slice A5 zs.length c5)) (first | exact HK.out _ kk5 | exact HK.out _ kk4 | exact HK.out _ kk3 | exact HK.out _ kk2 | exact HK.out _ kk1 | exact HK.out _ (Below.refl _ _).drew | exact HK.out _ (Below.refl _ _) | go_keep) (first | (go_at_call 7; (with_reducible refine (HA.out _ ?_).mono ?_); exact (Below.refl _ _).drew; rintro e V1 ⟨rfl, hk1⟩; have kk1 := below_trans (Below.refl W6.heap.size W6).drew hk1) | (go_at_call 8; (with_reducible refine (HB.out _ ?_).mono ?_); exact kk1; rintro e V2 ⟨rfl, hk2⟩; have kk2 := below_trans kk1 hk2) | (go_at_call 7; (with_reducible refine (HD.out _ ?_).mono ?_); exact kk2; rintro e V3 ⟨rfl, hk3⟩; have kk3 := below_trans kk2 hk3) | (go_at_call 8; (with_reducible refine (HE.out _ ?_).mono ?_); exact kk3; rintro e V4 ⟨rfl, hk4⟩; have kk4 := below_trans kk3 hk4) | (go_at_call 5; refine (plain_any _).mono ?_; rintro e V5 ⟨rfl, hk5⟩; have kk5 := below_trans kk4 hk5))
    have hend := below_trans hbb6 kk5
    go_wp2
    go_ret
    exact ⟨rfl, hend⟩
  · go_wp2_with (at_builtin; rw [HP.out]; refine wpList_append_src _ rfl (.const (.slice none 0 0)) (.tmp 24) 22 rfl w1.heap.size 34 i0 _ 3 32 Try.underlying22 hi hz0 hz1 hz2 rfl (by decide) (.slice none 0 0) 0 [] rfl (World.ownsRow_nil _ _ _ _) A4 4 4 cs rfl hA4 HSRC.out h1s (by simp only [maxLen]; omega) (by omega) hwW ?_; intro v1 w3 hown1 hg1 hat1; have hb3 : Below W.heap.size W w3 := (Below.refl _ _).grown hg1 (Nat.le_refl _) (by simp [Value.ownBlock]); have hown1' : w3.ownsRow w1.heap.size 34 3 v1 4 cs := hown1; obtain ⟨A1, c1, rfl, hsl1, _⟩ := sl_of_own (S := fun _ => False) (T := New w1 w3 34) hown1' (cells_col_any HCS.out) (fun _ h => h.elim) HC.out.1 (fun g hg ht => ⟨hg, ht⟩); have hcap := hsl1.2.1; obtain ⟨gc, oc, rfl, hgc, hat⟩ := hsl1.2.2.2.2 (by omega); have hty7 := (rb7.below hb3).ty; have hne : gc ≠ w2.heap.size := TyAt.ne hgc.2 hty7 (by decide); have r0 := bat hb3 b7 p0; have r1 := bat hb3 b7 p1; have r2 := bat hb3 b7 p2; have r3 := bat hb3 b7 p3; have z7 := (rb7.below hb3).frozen 1; have hcl := hsl1.1; have hbW3 := (hb2.trans ((hbW.mono hb2.size))).trans (hb3.mono hwW); have hf3 := (HF.out.below hbW).below hb3; have HS1 := hide hsl1; have x1' := set_same (v := (.slice (some ⟨gc, oc, none⟩) 4 c1)) r1; have xz := ty_frozen (hty7.set w2.heap.size 1 (.slice (some ⟨gc, oc, none⟩) 4 c1)) 1; have kc : (k : Int) ≤ (c1 : Int) := (by omega); clear hat hown1 hown1' hg1 hat1)
    all_goals (try (exfalso; go_light; simp_all; done))

    have y0 : ((w3.setCell ⟨w2.heap.size, 1, none⟩ (.slice (some ⟨gc, oc, none⟩) 4 c1)).setCell ⟨w2.heap.size, 1, none⟩ (.slice (some ⟨gc, oc, none⟩) k c1)).cell? ⟨w2.heap.size, 0, none⟩ = some (.string nm) := set_far (set_far r0 (.inr (by omega))) (.inr (by omega))
    have y1 : ((w3.setCell ⟨w2.heap.size, 1, none⟩ (.slice (some ⟨gc, oc, none⟩) 4 c1)).setCell ⟨w2.heap.size, 1, none⟩ (.slice (some ⟨gc, oc, none⟩) k c1)).cell? ⟨w2.heap.size, 1, none⟩ = some (.slice (some ⟨gc, oc, none⟩) k c1) := set_same (set_same r1)
    have y2 : ((w3.setCell ⟨w2.heap.size, 1, none⟩ (.slice (some ⟨gc, oc, none⟩) 4 c1)).setCell ⟨w2.heap.size, 1, none⟩ (.slice (some ⟨gc, oc, none⟩) k c1)).cell? ⟨w2.heap.size, 2, none⟩ = some (.slice none 0 0) := set_far (set_far r2 (.inr (by omega))) (.inr (by omega))
    have y3 : ((w3.setCell ⟨w2.heap.size, 1, none⟩ (.slice (some ⟨gc, oc, none⟩) 4 c1)).setCell ⟨w2.heap.size, 1, none⟩ (.slice (some ⟨gc, oc, none⟩) k c1)).cell? ⟨w2.heap.size, 3, none⟩ = some (.slice A5 zs.length c5) := set_far (set_far r3 (.inr (by omega))) (.inr (by omega))
    have hcol := col_keep (o := 1) (u := (.slice (some ⟨gc, oc, none⟩) 4 c1)) HS1.out hty7 (by decide)
    have hcol2 := Sl.head (col_keep (o := 1) (u := .slice (some ⟨gc, oc, none⟩) k c1) hcol (hty7.set _ _ _) (by decide)) (k := k) (by omega)
    obtain ⟨cols6, hcols6⟩ : ∃ cols6, cols6 = cols.take k := ⟨_, rfl⟩
    obtain ⟨rows6, hrows6⟩ : ∃ rows6, rows6 = zs := ⟨_, rfl⟩
    obtain ⟨Ar, cr, er, hr⟩ := ((hf3.setT (o := 1) (u := (.slice (some ⟨gc, oc, none⟩) 4 c1)) hty7 (by decide) (by decide)).setT (o := 1) (u := .slice (some ⟨gc, oc, none⟩) k c1) (hty7.set _ _ _) (by decide) (by decide)).sl
    injection er with er1 er2 er3
    subst er1 er3

    have ic : In ((w3.setCell ⟨w2.heap.size, 1, none⟩ (.slice (some ⟨gc, oc, none⟩) 4 c1)).setCell ⟨w2.heap.size, 1, none⟩ (.slice (some ⟨gc, oc, none⟩) k c1)) (some ⟨gc, oc, none⟩) k c1 cols6 := by rw [hcols6]; exact In.of_sl hcol2 fun q hq => hq.2.lt
    have ir : In ((w3.setCell ⟨w2.heap.size, 1, none⟩ (.slice (some ⟨gc, oc, none⟩) 4 c1)).setCell ⟨w2.heap.size, 1, none⟩ (.slice (some ⟨gc, oc, none⟩) k c1)) A5 zs.length c5 rows6 := by rw [hrows6]; exact hr
    have hbw6 : Below w1.heap.size w1 ((w3.setCell ⟨w2.heap.size, 1, none⟩ (.slice (some ⟨gc, oc, none⟩) 4 c1)).setCell ⟨w2.heap.size, 1, none⟩ (.slice (some ⟨gc, oc, none⟩) k c1)) := (hbW3.setCell hg12 _).setCell hg12 _
    have hsz6 : w2.heap.size < ((w3.setCell ⟨w2.heap.size, 1, none⟩ (.slice (some ⟨gc, oc, none⟩) 4 c1)).setCell ⟨w2.heap.size, 1, none⟩ (.slice (some ⟨gc, oc, none⟩) k c1)).heap.size := by simp; have := hb3.size; omega
    obtain ⟨W6, hW6⟩ : ∃ W6, ((w3.setCell ⟨w2.heap.size, 1, none⟩ (.slice (some ⟨gc, oc, none⟩) 4 c1)).setCell ⟨w2.heap.size, 1, none⟩ (.slice (some ⟨gc, oc, none⟩) k c1)) = W6 := ⟨_, rfl⟩
    rw [hW6] at y0 y1 y2 y3 ic ir hbw6 hsz6
    rw [hW6]
    replace f0 := bat hbw6 hs1 f0
    replace f1 := bat hbw6 hs1 f1
    replace f2 := bat hbw6 hs1 f2
    replace f3 := bat hbw6 hs1 f3
    have hs6 : w.heap.size < W6.heap.size := by omega
    have hbb6 := below_trans hbb1 hbw6
    obtain ⟨er, her⟩ : ∃ er, relErr r = er := ⟨_, rfl⟩
    obtain ⟨ex, hex⟩ : ∃ ex, relErr ⟨nm, cols6, [], rows6⟩ = ex := ⟨_, rfl⟩
    have HA : Hid (∀ V, Below W6.heap.size W6 V → Calls Try.prog 7 #[.agg #[.string r.name, .slice A n c, .slice A' n' c', .slice A'' n'' c'']] V fun e w' => e = .returned (.int .i64 er) ∧ Below V.heap.size V w') := hide fun V hV => by
      rw [← her]
      exact rel_any V A A' A'' n n' n'' c c' c'' r (hx.below (below_trans hbb6 hV)) (hy.below (below_trans hbb6 hV))
    have HB : Hid (∀ V, Below W6.heap.size W6 V → Calls Try.prog 8 #[.agg #[.string r.name, .slice A n c, .slice A' n' c', .slice A'' n'' c'']] V fun e w' => e = .returned (.int .i64 er) ∧ Below V.heap.size V w') := hide fun V hV => by
      rw [← her]
      exact rel_ref V A A' A'' n n' n'' c c' c'' r (hx.below (below_trans hbb6 hV)) (hy.below (below_trans hbb6 hV))
    have HD : Hid (∀ V, Below W6.heap.size W6 V → Calls Try.prog 7 #[.agg #[.string nm, .slice (some ⟨gc, oc, none⟩) k c1, .slice none 0 0, .slice A5 zs.length c5]] V fun e w' => e = .returned (.int .i64 ex) ∧ Below V.heap.size V w') := hide fun V hV => by
      rw [← hex]
      exact rel_any V _ none _ _ 0 _ _ 0 _ ⟨nm, cols6, [], rows6⟩ (ic.below hV) (ir.below hV)
    have HE : Hid (∀ V, Below W6.heap.size W6 V → Calls Try.prog 8 #[.agg #[.string nm, .slice (some ⟨gc, oc, none⟩) k c1, .slice none 0 0, .slice A5 zs.length c5]] V fun e w' => e = .returned (.int .i64 ex) ∧ Below V.heap.size V w') := hide fun V hV => by
      rw [← hex]
      exact rel_ref V _ none _ _ 0 _ _ 0 _ ⟨nm, cols6, [], rows6⟩ (ic.below hV) (ir.below hV)
    clear ic ir her hex hW6
    have HK : Hid (∀ V, Below W6.heap.size W6 V → V.cell? ⟨w.heap.size, 0, none⟩ = some (.string r.name) ∧ V.cell? ⟨w.heap.size, 1, none⟩ = some (.slice A n c) ∧ V.cell? ⟨w.heap.size, 2, none⟩ = some (.slice A' n' c') ∧ V.cell? ⟨w.heap.size, 3, none⟩ = some (.slice A'' n'' c'') ∧ V.cell? ⟨w2.heap.size, 0, none⟩ = some (.string nm) ∧ V.cell? ⟨w2.heap.size, 1, none⟩ = some (.slice (some ⟨gc, oc, none⟩) k c1) ∧ V.cell? ⟨w2.heap.size, 2, none⟩ = some (.slice none 0 0) ∧ V.cell? ⟨w2.heap.size, 3, none⟩ = some (.slice A5 zs.length c5)) := hide fun V hV => ⟨bat hV hs6 f0, bat hV hs6 f1, bat hV hs6 f2, bat hV hs6 f3, bat hV hsz6 y0, bat hV hsz6 y1, bat hV hsz6 y2, bat hV hsz6 y3⟩
    go_region_held3 (fun V => V.cell? ⟨w.heap.size, 0, none⟩ = some (.string r.name) ∧ V.cell? ⟨w.heap.size, 1, none⟩ = some (.slice A n c) ∧ V.cell? ⟨w.heap.size, 2, none⟩ = some (.slice A' n' c') ∧ V.cell? ⟨w.heap.size, 3, none⟩ = some (.slice A'' n'' c'') ∧ V.cell? ⟨w2.heap.size, 0, none⟩ = some (.string nm) ∧ V.cell? ⟨w2.heap.size, 1, none⟩ = some (.slice (some ⟨gc, oc, none⟩) k c1) ∧ V.cell? ⟨w2.heap.size, 2, none⟩ = some (.slice none 0 0) ∧ V.cell? ⟨w2.heap.size, 3, none⟩ = some (.slice A5 zs.length c5)) (first | exact HK.out _ kk5 | exact HK.out _ kk4 | exact HK.out _ kk3 | exact HK.out _ kk2 | exact HK.out _ kk1 | exact HK.out _ (Below.refl _ _).drew | exact HK.out _ (Below.refl _ _) | go_keep) (first | (go_at_call 7; (with_reducible refine (HA.out _ ?_).mono ?_); exact (Below.refl _ _).drew; rintro e V1 ⟨rfl, hk1⟩; have kk1 := below_trans (Below.refl W6.heap.size W6).drew hk1) | (go_at_call 8; (with_reducible refine (HB.out _ ?_).mono ?_); exact kk1; rintro e V2 ⟨rfl, hk2⟩; have kk2 := below_trans kk1 hk2) | (go_at_call 7; (with_reducible refine (HD.out _ ?_).mono ?_); exact kk2; rintro e V3 ⟨rfl, hk3⟩; have kk3 := below_trans kk2 hk3) | (go_at_call 8; (with_reducible refine (HE.out _ ?_).mono ?_); exact kk3; rintro e V4 ⟨rfl, hk4⟩; have kk4 := below_trans kk3 hk4) | (go_at_call 5; refine (plain_any _).mono ?_; rintro e V5 ⟨rfl, hk5⟩; have kk5 := below_trans kk4 hk5))
    have hend := below_trans hbb6 kk5
    go_wp2
    go_ret
    exact ⟨rfl, hend⟩
  · go_wp2_with (at_builtin; rw [HP.out]; refine wpList_append_src _ rfl (.const (.slice none 0 0)) (.tmp 24) 22 rfl w1.heap.size 34 i0 _ 3 32 Try.underlying22 hi hz0 hz1 hz2 rfl (by decide) (.slice none 0 0) 0 [] rfl (World.ownsRow_nil _ _ _ _) A4 4 4 cs rfl hA4 HSRC.out h1s (by simp only [maxLen]; omega) (by omega) hwW ?_; intro v1 w3 hown1 hg1 hat1; have hb3 : Below W.heap.size W w3 := (Below.refl _ _).grown hg1 (Nat.le_refl _) (by simp [Value.ownBlock]); have hown1' : w3.ownsRow w1.heap.size 34 3 v1 4 cs := hown1; obtain ⟨A1, c1, rfl, hsl1, _⟩ := sl_of_own (S := fun _ => False) (T := New w1 w3 34) hown1' (cells_col_any HCS.out) (fun _ h => h.elim) HC.out.1 (fun g hg ht => ⟨hg, ht⟩); have hcap := hsl1.2.1; obtain ⟨gc, oc, rfl, hgc, hat⟩ := hsl1.2.2.2.2 (by omega); have hty7 := (rb7.below hb3).ty; have hne : gc ≠ w2.heap.size := TyAt.ne hgc.2 hty7 (by decide); have r0 := bat hb3 b7 p0; have r1 := bat hb3 b7 p1; have r2 := bat hb3 b7 p2; have r3 := bat hb3 b7 p3; have z7 := (rb7.below hb3).frozen 1; have hcl := hsl1.1; have hbW3 := (hb2.trans ((hbW.mono hb2.size))).trans (hb3.mono hwW); have hf3 := (HF.out.below hbW).below hb3; have HS1 := hide hsl1; have hl0 : 3 < cols.length := (by omega); obtain ⟨cc, hrd, hcc⟩ := hat 3 hl0; have hl3 : 2 < cc.length := (by rw [Rep.len hrd]; show 2 < 3; omega); have x1 : w3.cell? ⟨gc, oc + 11, none⟩ = some (cc[2]'hl3) := hcc 2 hl3; have x1' := set_far (b' := w2.heap.size) (o' := 1) (v := (.slice (some ⟨gc, oc, none⟩) 4 c1)) x1 (.inl hne); have xz := ty_frozen (hgc.2.set w2.heap.size 1 (.slice (some ⟨gc, oc, none⟩) 4 c1)) (oc + 11); clear x1 hcc hrd; clear hat hown1 hown1' hg1 hat1)
    all_goals (try (exfalso; go_light; simp_all; done))

    have y0 : ((w3.setCell ⟨w2.heap.size, 1, none⟩ (.slice (some ⟨gc, oc, none⟩) 4 c1)).setCell ⟨gc, oc + 11, none⟩ (.bool false)).cell? ⟨w2.heap.size, 0, none⟩ = some (.string nm) := set_far (set_far r0 (.inr (by omega))) (.inl hne.symm)
    have y1 : ((w3.setCell ⟨w2.heap.size, 1, none⟩ (.slice (some ⟨gc, oc, none⟩) 4 c1)).setCell ⟨gc, oc + 11, none⟩ (.bool false)).cell? ⟨w2.heap.size, 1, none⟩ = some (.slice (some ⟨gc, oc, none⟩) 4 c1) := set_far (set_same r1) (.inl hne.symm)
    have y2 : ((w3.setCell ⟨w2.heap.size, 1, none⟩ (.slice (some ⟨gc, oc, none⟩) 4 c1)).setCell ⟨gc, oc + 11, none⟩ (.bool false)).cell? ⟨w2.heap.size, 2, none⟩ = some (.slice none 0 0) := set_far (set_far r2 (.inr (by omega))) (.inl hne.symm)
    have y3 : ((w3.setCell ⟨w2.heap.size, 1, none⟩ (.slice (some ⟨gc, oc, none⟩) 4 c1)).setCell ⟨gc, oc + 11, none⟩ (.bool false)).cell? ⟨w2.heap.size, 3, none⟩ = some (.slice A5 zs.length c5) := set_far (set_far r3 (.inr (by omega))) (.inl hne.symm)
    have hcol := col_keep (o := 1) (u := (.slice (some ⟨gc, oc, none⟩) 4 c1)) HS1.out hty7 (by decide)
    obtain ⟨cols6, hcol6⟩ : ∃ cols6 : List Col, Sl ((w3.setCell ⟨w2.heap.size, 1, none⟩ (.slice (some ⟨gc, oc, none⟩) 4 c1)).setCell ⟨gc, oc + 11, none⟩ (.bool false)) (New w1 (w3.setCell ⟨w2.heap.size, 1, none⟩ (.slice (some ⟨gc, oc, none⟩) 4 c1)) 34) (some ⟨gc, oc, none⟩) 4 c1 cols6 := col_change (k := 3) (j := 2) (u := .bool false) hcol (by omega) (by decide) (fun x => ⟨x.name, x.kind, false⟩) (fun x hx => col_null hx)
    obtain ⟨rows6, hrows6⟩ : ∃ rows6, rows6 = zs := ⟨_, rfl⟩
    obtain ⟨Ar, cr, er, hr⟩ := ((hf3.setT (o := 1) (u := (.slice (some ⟨gc, oc, none⟩) 4 c1)) hty7 (by decide) (by decide)).setT (o := oc + 11) (u := .bool false) (hgc.2.set _ _ _) (by decide) (by decide)).sl
    injection er with er1 er2 er3
    subst er1 er3

    have ic : In ((w3.setCell ⟨w2.heap.size, 1, none⟩ (.slice (some ⟨gc, oc, none⟩) 4 c1)).setCell ⟨gc, oc + 11, none⟩ (.bool false)) (some ⟨gc, oc, none⟩) 4 c1 cols6 := In.of_sl hcol6 fun q hq => Nat.lt_of_lt_of_le hq.2.lt (by simp)
    have ir : In ((w3.setCell ⟨w2.heap.size, 1, none⟩ (.slice (some ⟨gc, oc, none⟩) 4 c1)).setCell ⟨gc, oc + 11, none⟩ (.bool false)) A5 zs.length c5 rows6 := by rw [hrows6]; exact hr
    have hbw6 : Below w1.heap.size w1 ((w3.setCell ⟨w2.heap.size, 1, none⟩ (.slice (some ⟨gc, oc, none⟩) 4 c1)).setCell ⟨gc, oc + 11, none⟩ (.bool false)) := (hbW3.setCell hg12 _).setCell hgc.1 _
    have hsz6 : w2.heap.size < ((w3.setCell ⟨w2.heap.size, 1, none⟩ (.slice (some ⟨gc, oc, none⟩) 4 c1)).setCell ⟨gc, oc + 11, none⟩ (.bool false)).heap.size := by simp; have := hb3.size; omega
    obtain ⟨W6, hW6⟩ : ∃ W6, ((w3.setCell ⟨w2.heap.size, 1, none⟩ (.slice (some ⟨gc, oc, none⟩) 4 c1)).setCell ⟨gc, oc + 11, none⟩ (.bool false)) = W6 := ⟨_, rfl⟩
    rw [hW6] at y0 y1 y2 y3 ic ir hbw6 hsz6
    rw [hW6]
    replace f0 := bat hbw6 hs1 f0
    replace f1 := bat hbw6 hs1 f1
    replace f2 := bat hbw6 hs1 f2
    replace f3 := bat hbw6 hs1 f3
    have hs6 : w.heap.size < W6.heap.size := by omega
    have hbb6 := below_trans hbb1 hbw6
    obtain ⟨er, her⟩ : ∃ er, relErr r = er := ⟨_, rfl⟩
    obtain ⟨ex, hex⟩ : ∃ ex, relErr ⟨nm, cols6, [], rows6⟩ = ex := ⟨_, rfl⟩
    have HA : Hid (∀ V, Below W6.heap.size W6 V → Calls Try.prog 7 #[.agg #[.string r.name, .slice A n c, .slice A' n' c', .slice A'' n'' c'']] V fun e w' => e = .returned (.int .i64 er) ∧ Below V.heap.size V w') := hide fun V hV => by
      rw [← her]
      exact rel_any V A A' A'' n n' n'' c c' c'' r (hx.below (below_trans hbb6 hV)) (hy.below (below_trans hbb6 hV))
    have HB : Hid (∀ V, Below W6.heap.size W6 V → Calls Try.prog 8 #[.agg #[.string r.name, .slice A n c, .slice A' n' c', .slice A'' n'' c'']] V fun e w' => e = .returned (.int .i64 er) ∧ Below V.heap.size V w') := hide fun V hV => by
      rw [← her]
      exact rel_ref V A A' A'' n n' n'' c c' c'' r (hx.below (below_trans hbb6 hV)) (hy.below (below_trans hbb6 hV))
    have HD : Hid (∀ V, Below W6.heap.size W6 V → Calls Try.prog 7 #[.agg #[.string nm, .slice (some ⟨gc, oc, none⟩) 4 c1, .slice none 0 0, .slice A5 zs.length c5]] V fun e w' => e = .returned (.int .i64 ex) ∧ Below V.heap.size V w') := hide fun V hV => by
      rw [← hex]
      exact rel_any V _ none _ _ 0 _ _ 0 _ ⟨nm, cols6, [], rows6⟩ (ic.below hV) (ir.below hV)
    have HE : Hid (∀ V, Below W6.heap.size W6 V → Calls Try.prog 8 #[.agg #[.string nm, .slice (some ⟨gc, oc, none⟩) 4 c1, .slice none 0 0, .slice A5 zs.length c5]] V fun e w' => e = .returned (.int .i64 ex) ∧ Below V.heap.size V w') := hide fun V hV => by
      rw [← hex]
      exact rel_ref V _ none _ _ 0 _ _ 0 _ ⟨nm, cols6, [], rows6⟩ (ic.below hV) (ir.below hV)
    clear ic ir her hex hW6
    have HK : Hid (∀ V, Below W6.heap.size W6 V → V.cell? ⟨w.heap.size, 0, none⟩ = some (.string r.name) ∧ V.cell? ⟨w.heap.size, 1, none⟩ = some (.slice A n c) ∧ V.cell? ⟨w.heap.size, 2, none⟩ = some (.slice A' n' c') ∧ V.cell? ⟨w.heap.size, 3, none⟩ = some (.slice A'' n'' c'') ∧ V.cell? ⟨w2.heap.size, 0, none⟩ = some (.string nm) ∧ V.cell? ⟨w2.heap.size, 1, none⟩ = some (.slice (some ⟨gc, oc, none⟩) 4 c1) ∧ V.cell? ⟨w2.heap.size, 2, none⟩ = some (.slice none 0 0) ∧ V.cell? ⟨w2.heap.size, 3, none⟩ = some (.slice A5 zs.length c5)) := hide fun V hV => ⟨bat hV hs6 f0, bat hV hs6 f1, bat hV hs6 f2, bat hV hs6 f3, bat hV hsz6 y0, bat hV hsz6 y1, bat hV hsz6 y2, bat hV hsz6 y3⟩
    go_region_held3 (fun V => V.cell? ⟨w.heap.size, 0, none⟩ = some (.string r.name) ∧ V.cell? ⟨w.heap.size, 1, none⟩ = some (.slice A n c) ∧ V.cell? ⟨w.heap.size, 2, none⟩ = some (.slice A' n' c') ∧ V.cell? ⟨w.heap.size, 3, none⟩ = some (.slice A'' n'' c'') ∧ V.cell? ⟨w2.heap.size, 0, none⟩ = some (.string nm) ∧ V.cell? ⟨w2.heap.size, 1, none⟩ = some (.slice (some ⟨gc, oc, none⟩) 4 c1) ∧ V.cell? ⟨w2.heap.size, 2, none⟩ = some (.slice none 0 0) ∧ V.cell? ⟨w2.heap.size, 3, none⟩ = some (.slice A5 zs.length c5)) (first | exact HK.out _ kk5 | exact HK.out _ kk4 | exact HK.out _ kk3 | exact HK.out _ kk2 | exact HK.out _ kk1 | exact HK.out _ (Below.refl _ _).drew | exact HK.out _ (Below.refl _ _) | go_keep) (first | (go_at_call 7; (with_reducible refine (HA.out _ ?_).mono ?_); exact (Below.refl _ _).drew; rintro e V1 ⟨rfl, hk1⟩; have kk1 := below_trans (Below.refl W6.heap.size W6).drew hk1) | (go_at_call 8; (with_reducible refine (HB.out _ ?_).mono ?_); exact kk1; rintro e V2 ⟨rfl, hk2⟩; have kk2 := below_trans kk1 hk2) | (go_at_call 7; (with_reducible refine (HD.out _ ?_).mono ?_); exact kk2; rintro e V3 ⟨rfl, hk3⟩; have kk3 := below_trans kk2 hk3) | (go_at_call 8; (with_reducible refine (HE.out _ ?_).mono ?_); exact kk3; rintro e V4 ⟨rfl, hk4⟩; have kk4 := below_trans kk3 hk4) | (go_at_call 5; refine (plain_any _).mono ?_; rintro e V5 ⟨rfl, hk5⟩; have kk5 := below_trans kk4 hk5))
    have hend := below_trans hbb6 kk5
    go_wp2
    go_ret
    exact ⟨rfl, hend⟩
  by_cases hz3 : zs.length = 0
  · rw [hz3] at HP p3 e3 HF
    clear hz3
    go_wp2_with (at_builtin; rw [HP.out]; refine wpList_append_src _ rfl (.const (.slice none 0 0)) (.tmp 24) 22 rfl w1.heap.size 34 i0 _ 3 32 Try.underlying22 hi hz0 hz1 hz2 rfl (by decide) (.slice none 0 0) 0 [] rfl (World.ownsRow_nil _ _ _ _) A4 4 4 cs rfl hA4 HSRC.out h1s (by simp only [maxLen]; omega) (by omega) hwW ?_; intro v1 w3 hown1 hg1 hat1; have hb3 : Below W.heap.size W w3 := (Below.refl _ _).grown hg1 (Nat.le_refl _) (by simp [Value.ownBlock]); have hown1' : w3.ownsRow w1.heap.size 34 3 v1 4 cs := hown1; obtain ⟨A1, c1, rfl, hsl1, _⟩ := sl_of_own (S := fun _ => False) (T := New w1 w3 34) hown1' (cells_col_any HCS.out) (fun _ h => h.elim) HC.out.1 (fun g hg ht => ⟨hg, ht⟩); have hcap := hsl1.2.1; obtain ⟨gc, oc, rfl, hgc, hat⟩ := hsl1.2.2.2.2 (by omega); have hty7 := (rb7.below hb3).ty; have hne : gc ≠ w2.heap.size := TyAt.ne hgc.2 hty7 (by decide); have r0 := bat hb3 b7 p0; have r1 := bat hb3 b7 p1; have r2 := bat hb3 b7 p2; have r3 := bat hb3 b7 p3; have z7 := (rb7.below hb3).frozen 1; have hcl := hsl1.1; have hbW3 := (hb2.trans ((hbW.mono hb2.size))).trans (hb3.mono hwW); have hf3 := (HF.out.below hbW).below hb3; have HS1 := hide hsl1; skip; clear hat hown1 hown1' hg1 hat1)
    all_goals (try (exfalso; go_light; simp_all; done))

    have y0 : (w3.setCell ⟨w2.heap.size, 1, none⟩ (.slice (some ⟨gc, oc, none⟩) 4 c1)).cell? ⟨w2.heap.size, 0, none⟩ = some (.string nm) := set_far r0 (.inr (by omega))
    have y1 : (w3.setCell ⟨w2.heap.size, 1, none⟩ (.slice (some ⟨gc, oc, none⟩) 4 c1)).cell? ⟨w2.heap.size, 1, none⟩ = some (.slice (some ⟨gc, oc, none⟩) 4 c1) := set_same r1
    have y2 : (w3.setCell ⟨w2.heap.size, 1, none⟩ (.slice (some ⟨gc, oc, none⟩) 4 c1)).cell? ⟨w2.heap.size, 2, none⟩ = some (.slice none 0 0) := set_far r2 (.inr (by omega))
    have y3 : (w3.setCell ⟨w2.heap.size, 1, none⟩ (.slice (some ⟨gc, oc, none⟩) 4 c1)).cell? ⟨w2.heap.size, 3, none⟩ = some (.slice A5 0 c5) := set_far r3 (.inr (by omega))
    have hcol := col_keep (o := 1) (u := .slice (some ⟨gc, oc, none⟩) 4 c1) HS1.out hty7 (by decide)
    obtain ⟨cols6, hcols6⟩ : ∃ cols6, cols6 = cols := ⟨_, rfl⟩
    obtain ⟨rows6, hrows6⟩ : ∃ rows6, rows6 = zs := ⟨_, rfl⟩
    obtain ⟨Ar, cr, er, hr⟩ := (hf3.setT (o := 1) (u := .slice (some ⟨gc, oc, none⟩) 4 c1) hty7 (by decide) (by decide)).sl
    injection er with er1 er2 er3
    subst er1 er3
    have ER2 := hide er2
    clear er2
    have ic : In (w3.setCell ⟨w2.heap.size, 1, none⟩ (.slice (some ⟨gc, oc, none⟩) 4 c1)) (some ⟨gc, oc, none⟩) 4 c1 cols6 := by rw [hcols6]; exact In.of_sl hcol fun q hq => hq.2.lt
    have ir : In (w3.setCell ⟨w2.heap.size, 1, none⟩ (.slice (some ⟨gc, oc, none⟩) 4 c1)) A5 0 c5 rows6 := by rw [hrows6, ER2.out]; exact hr
    have hbw6 : Below w1.heap.size w1 (w3.setCell ⟨w2.heap.size, 1, none⟩ (.slice (some ⟨gc, oc, none⟩) 4 c1)) := hbW3.setCell hg12 _
    have hsz6 : w2.heap.size < (w3.setCell ⟨w2.heap.size, 1, none⟩ (.slice (some ⟨gc, oc, none⟩) 4 c1)).heap.size := by simp; have := hb3.size; omega
    obtain ⟨W6, hW6⟩ : ∃ W6, (w3.setCell ⟨w2.heap.size, 1, none⟩ (.slice (some ⟨gc, oc, none⟩) 4 c1)) = W6 := ⟨_, rfl⟩
    rw [hW6] at y0 y1 y2 y3 ic ir hbw6 hsz6
    rw [hW6]
    replace f0 := bat hbw6 hs1 f0
    replace f1 := bat hbw6 hs1 f1
    replace f2 := bat hbw6 hs1 f2
    replace f3 := bat hbw6 hs1 f3
    have hs6 : w.heap.size < W6.heap.size := by omega
    have hbb6 := below_trans hbb1 hbw6
    obtain ⟨er, her⟩ : ∃ er, relErr r = er := ⟨_, rfl⟩
    obtain ⟨ex, hex⟩ : ∃ ex, relErr ⟨nm, cols6, [], rows6⟩ = ex := ⟨_, rfl⟩
    have HA : Hid (∀ V, Below W6.heap.size W6 V → Calls Try.prog 7 #[.agg #[.string r.name, .slice A n c, .slice A' n' c', .slice A'' n'' c'']] V fun e w' => e = .returned (.int .i64 er) ∧ Below V.heap.size V w') := hide fun V hV => by
      rw [← her]
      exact rel_any V A A' A'' n n' n'' c c' c'' r (hx.below (below_trans hbb6 hV)) (hy.below (below_trans hbb6 hV))
    have HB : Hid (∀ V, Below W6.heap.size W6 V → Calls Try.prog 8 #[.agg #[.string r.name, .slice A n c, .slice A' n' c', .slice A'' n'' c'']] V fun e w' => e = .returned (.int .i64 er) ∧ Below V.heap.size V w') := hide fun V hV => by
      rw [← her]
      exact rel_ref V A A' A'' n n' n'' c c' c'' r (hx.below (below_trans hbb6 hV)) (hy.below (below_trans hbb6 hV))
    have HD : Hid (∀ V, Below W6.heap.size W6 V → Calls Try.prog 7 #[.agg #[.string nm, .slice (some ⟨gc, oc, none⟩) 4 c1, .slice none 0 0, .slice A5 0 c5]] V fun e w' => e = .returned (.int .i64 ex) ∧ Below V.heap.size V w') := hide fun V hV => by
      rw [← hex]
      exact rel_any V _ none _ _ 0 _ _ 0 _ ⟨nm, cols6, [], rows6⟩ (ic.below hV) (ir.below hV)
    have HE : Hid (∀ V, Below W6.heap.size W6 V → Calls Try.prog 8 #[.agg #[.string nm, .slice (some ⟨gc, oc, none⟩) 4 c1, .slice none 0 0, .slice A5 0 c5]] V fun e w' => e = .returned (.int .i64 ex) ∧ Below V.heap.size V w') := hide fun V hV => by
      rw [← hex]
      exact rel_ref V _ none _ _ 0 _ _ 0 _ ⟨nm, cols6, [], rows6⟩ (ic.below hV) (ir.below hV)
    clear ic ir her hex hW6
    have HK : Hid (∀ V, Below W6.heap.size W6 V → V.cell? ⟨w.heap.size, 0, none⟩ = some (.string r.name) ∧ V.cell? ⟨w.heap.size, 1, none⟩ = some (.slice A n c) ∧ V.cell? ⟨w.heap.size, 2, none⟩ = some (.slice A' n' c') ∧ V.cell? ⟨w.heap.size, 3, none⟩ = some (.slice A'' n'' c'') ∧ V.cell? ⟨w2.heap.size, 0, none⟩ = some (.string nm) ∧ V.cell? ⟨w2.heap.size, 1, none⟩ = some (.slice (some ⟨gc, oc, none⟩) 4 c1) ∧ V.cell? ⟨w2.heap.size, 2, none⟩ = some (.slice none 0 0) ∧ V.cell? ⟨w2.heap.size, 3, none⟩ = some (.slice A5 0 c5)) := hide fun V hV => ⟨bat hV hs6 f0, bat hV hs6 f1, bat hV hs6 f2, bat hV hs6 f3, bat hV hsz6 y0, bat hV hsz6 y1, bat hV hsz6 y2, bat hV hsz6 y3⟩
    go_region_held3 (fun V => V.cell? ⟨w.heap.size, 0, none⟩ = some (.string r.name) ∧ V.cell? ⟨w.heap.size, 1, none⟩ = some (.slice A n c) ∧ V.cell? ⟨w.heap.size, 2, none⟩ = some (.slice A' n' c') ∧ V.cell? ⟨w.heap.size, 3, none⟩ = some (.slice A'' n'' c'') ∧ V.cell? ⟨w2.heap.size, 0, none⟩ = some (.string nm) ∧ V.cell? ⟨w2.heap.size, 1, none⟩ = some (.slice (some ⟨gc, oc, none⟩) 4 c1) ∧ V.cell? ⟨w2.heap.size, 2, none⟩ = some (.slice none 0 0) ∧ V.cell? ⟨w2.heap.size, 3, none⟩ = some (.slice A5 0 c5)) (first | exact HK.out _ kk5 | exact HK.out _ kk4 | exact HK.out _ kk3 | exact HK.out _ kk2 | exact HK.out _ kk1 | exact HK.out _ (Below.refl _ _).drew | exact HK.out _ (Below.refl _ _) | go_keep) (first | (go_at_call 7; (with_reducible refine (HA.out _ ?_).mono ?_); exact (Below.refl _ _).drew; rintro e V1 ⟨rfl, hk1⟩; have kk1 := below_trans (Below.refl W6.heap.size W6).drew hk1) | (go_at_call 8; (with_reducible refine (HB.out _ ?_).mono ?_); exact kk1; rintro e V2 ⟨rfl, hk2⟩; have kk2 := below_trans kk1 hk2) | (go_at_call 7; (with_reducible refine (HD.out _ ?_).mono ?_); exact kk2; rintro e V3 ⟨rfl, hk3⟩; have kk3 := below_trans kk2 hk3) | (go_at_call 8; (with_reducible refine (HE.out _ ?_).mono ?_); exact kk3; rintro e V4 ⟨rfl, hk4⟩; have kk4 := below_trans kk3 hk4) | (go_at_call 5; refine (plain_any _).mono ?_; rintro e V5 ⟨rfl, hk5⟩; have kk5 := below_trans kk4 hk5))
    have hend := below_trans hbb6 kk5
    go_wp2
    go_ret
    exact ⟨rfl, hend⟩
  · have hpos : (0 : Int) < (zs.length : Int) := by omega
    go_wp2_with (at_builtin; rw [HP.out]; refine wpList_append_src _ rfl (.const (.slice none 0 0)) (.tmp 24) 22 rfl w1.heap.size 34 i0 _ 3 32 Try.underlying22 hi hz0 hz1 hz2 rfl (by decide) (.slice none 0 0) 0 [] rfl (World.ownsRow_nil _ _ _ _) A4 4 4 cs rfl hA4 HSRC.out h1s (by simp only [maxLen]; omega) (by omega) hwW ?_; intro v1 w3 hown1 hg1 hat1; have hb3 : Below W.heap.size W w3 := (Below.refl _ _).grown hg1 (Nat.le_refl _) (by simp [Value.ownBlock]); have hown1' : w3.ownsRow w1.heap.size 34 3 v1 4 cs := hown1; obtain ⟨A1, c1, rfl, hsl1, _⟩ := sl_of_own (S := fun _ => False) (T := New w1 w3 34) hown1' (cells_col_any HCS.out) (fun _ h => h.elim) HC.out.1 (fun g hg ht => ⟨hg, ht⟩); have hcap := hsl1.2.1; obtain ⟨gc, oc, rfl, hgc, hat⟩ := hsl1.2.2.2.2 (by omega); have hty7 := (rb7.below hb3).ty; have hne : gc ≠ w2.heap.size := TyAt.ne hgc.2 hty7 (by decide); have r0 := bat hb3 b7 p0; have r1 := bat hb3 b7 p1; have r2 := bat hb3 b7 p2; have r3 := bat hb3 b7 p3; have z7 := (rb7.below hb3).frozen 1; have hcl := hsl1.1; have hbW3 := (hb2.trans ((hbW.mono hb2.size))).trans (hb3.mono hwW); have hf3 := (HF.out.below hbW).below hb3; have HS1 := hide hsl1; obtain ⟨ge, ce, hve, hge, htyE, ⟨ue, x1'⟩, ys, hyl, hfe⟩ := (hf3.setT (o := 1) (u := (.slice (some ⟨gc, oc, none⟩) 4 c1)) hty7 (by decide) (by decide)).count' hz3 ((k : Int) - 1) (by unfold I64; omega); injection hve with hv1 hv2 hv3; subst hv1 hv3; have xz := ty_frozen htyE 1; have hneE : w2.heap.size ≠ ge := (fun e => TyAt.ne htyE (hty7.set w2.heap.size 1 (.slice (some ⟨gc, oc, none⟩) 4 c1)) (by decide) e.symm); have HFE := hide hfe; have HYL := hide hyl; clear hfe hyl; clear hat hown1 hown1' hg1 hat1)
    all_goals (try (exfalso; go_light; simp_all; done))

    have y0 : ((w3.setCell ⟨w2.heap.size, 1, none⟩ (.slice (some ⟨gc, oc, none⟩) 4 c1)).setCell ⟨ge, 1, none⟩ (.int .i64 ((k : Int) - 1))).cell? ⟨w2.heap.size, 0, none⟩ = some (.string nm) := set_far (set_far r0 (.inr (by omega))) (.inl hneE)
    have y1 : ((w3.setCell ⟨w2.heap.size, 1, none⟩ (.slice (some ⟨gc, oc, none⟩) 4 c1)).setCell ⟨ge, 1, none⟩ (.int .i64 ((k : Int) - 1))).cell? ⟨w2.heap.size, 1, none⟩ = some (.slice (some ⟨gc, oc, none⟩) 4 c1) := set_far (set_same r1) (.inl hneE)
    have y2 : ((w3.setCell ⟨w2.heap.size, 1, none⟩ (.slice (some ⟨gc, oc, none⟩) 4 c1)).setCell ⟨ge, 1, none⟩ (.int .i64 ((k : Int) - 1))).cell? ⟨w2.heap.size, 2, none⟩ = some (.slice none 0 0) := set_far (set_far r2 (.inr (by omega))) (.inl hneE)
    have y3 : ((w3.setCell ⟨w2.heap.size, 1, none⟩ (.slice (some ⟨gc, oc, none⟩) 4 c1)).setCell ⟨ge, 1, none⟩ (.int .i64 ((k : Int) - 1))).cell? ⟨w2.heap.size, 3, none⟩ = some (.slice (some ⟨ge, 0, none⟩) zs.length c5) := set_far (set_far r3 (.inr (by omega))) (.inl hneE)
    have hcol := col_keep (o := 1) (u := (.slice (some ⟨gc, oc, none⟩) 4 c1)) HS1.out hty7 (by decide)
    have hcol2 := col_keep (o := 1) (u := .int .i64 ((k : Int) - 1)) hcol htyE (by decide)
    obtain ⟨cols6, hcols6⟩ : ∃ cols6, cols6 = cols := ⟨_, rfl⟩
    obtain ⟨rows6, hrows6⟩ : ∃ rows6, rows6 = ys := ⟨_, rfl⟩
    obtain ⟨Ar, cr, er, hr⟩ := HFE.out.sl
    injection er with er1 er2 er3
    subst er1 er3
    clear er2

    have ic : In ((w3.setCell ⟨w2.heap.size, 1, none⟩ (.slice (some ⟨gc, oc, none⟩) 4 c1)).setCell ⟨ge, 1, none⟩ (.int .i64 ((k : Int) - 1))) (some ⟨gc, oc, none⟩) 4 c1 cols6 := by rw [hcols6]; exact In.of_sl hcol2 fun q hq => hq.2.lt
    have ir : In ((w3.setCell ⟨w2.heap.size, 1, none⟩ (.slice (some ⟨gc, oc, none⟩) 4 c1)).setCell ⟨ge, 1, none⟩ (.int .i64 ((k : Int) - 1))) (some ⟨ge, 0, none⟩) zs.length c5 rows6 := by rw [hrows6, ← HYL.out]; exact hr
    have hbw6 : Below w1.heap.size w1 ((w3.setCell ⟨w2.heap.size, 1, none⟩ (.slice (some ⟨gc, oc, none⟩) 4 c1)).setCell ⟨ge, 1, none⟩ (.int .i64 ((k : Int) - 1))) := (hbW3.setCell hg12 _).setCell hge _
    have hsz6 : w2.heap.size < ((w3.setCell ⟨w2.heap.size, 1, none⟩ (.slice (some ⟨gc, oc, none⟩) 4 c1)).setCell ⟨ge, 1, none⟩ (.int .i64 ((k : Int) - 1))).heap.size := by simp; have := hb3.size; omega
    obtain ⟨W6, hW6⟩ : ∃ W6, ((w3.setCell ⟨w2.heap.size, 1, none⟩ (.slice (some ⟨gc, oc, none⟩) 4 c1)).setCell ⟨ge, 1, none⟩ (.int .i64 ((k : Int) - 1))) = W6 := ⟨_, rfl⟩
    rw [hW6] at y0 y1 y2 y3 ic ir hbw6 hsz6
    rw [hW6]
    replace f0 := bat hbw6 hs1 f0
    replace f1 := bat hbw6 hs1 f1
    replace f2 := bat hbw6 hs1 f2
    replace f3 := bat hbw6 hs1 f3
    have hs6 : w.heap.size < W6.heap.size := by omega
    have hbb6 := below_trans hbb1 hbw6
    obtain ⟨er, her⟩ : ∃ er, relErr r = er := ⟨_, rfl⟩
    obtain ⟨ex, hex⟩ : ∃ ex, relErr ⟨nm, cols6, [], rows6⟩ = ex := ⟨_, rfl⟩
    have HA : Hid (∀ V, Below W6.heap.size W6 V → Calls Try.prog 7 #[.agg #[.string r.name, .slice A n c, .slice A' n' c', .slice A'' n'' c'']] V fun e w' => e = .returned (.int .i64 er) ∧ Below V.heap.size V w') := hide fun V hV => by
      rw [← her]
      exact rel_any V A A' A'' n n' n'' c c' c'' r (hx.below (below_trans hbb6 hV)) (hy.below (below_trans hbb6 hV))
    have HB : Hid (∀ V, Below W6.heap.size W6 V → Calls Try.prog 8 #[.agg #[.string r.name, .slice A n c, .slice A' n' c', .slice A'' n'' c'']] V fun e w' => e = .returned (.int .i64 er) ∧ Below V.heap.size V w') := hide fun V hV => by
      rw [← her]
      exact rel_ref V A A' A'' n n' n'' c c' c'' r (hx.below (below_trans hbb6 hV)) (hy.below (below_trans hbb6 hV))
    have HD : Hid (∀ V, Below W6.heap.size W6 V → Calls Try.prog 7 #[.agg #[.string nm, .slice (some ⟨gc, oc, none⟩) 4 c1, .slice none 0 0, .slice (some ⟨ge, 0, none⟩) zs.length c5]] V fun e w' => e = .returned (.int .i64 ex) ∧ Below V.heap.size V w') := hide fun V hV => by
      rw [← hex]
      exact rel_any V _ none _ _ 0 _ _ 0 _ ⟨nm, cols6, [], rows6⟩ (ic.below hV) (ir.below hV)
    have HE : Hid (∀ V, Below W6.heap.size W6 V → Calls Try.prog 8 #[.agg #[.string nm, .slice (some ⟨gc, oc, none⟩) 4 c1, .slice none 0 0, .slice (some ⟨ge, 0, none⟩) zs.length c5]] V fun e w' => e = .returned (.int .i64 ex) ∧ Below V.heap.size V w') := hide fun V hV => by
      rw [← hex]
      exact rel_ref V _ none _ _ 0 _ _ 0 _ ⟨nm, cols6, [], rows6⟩ (ic.below hV) (ir.below hV)
    clear ic ir her hex hW6
    have HK : Hid (∀ V, Below W6.heap.size W6 V → V.cell? ⟨w.heap.size, 0, none⟩ = some (.string r.name) ∧ V.cell? ⟨w.heap.size, 1, none⟩ = some (.slice A n c) ∧ V.cell? ⟨w.heap.size, 2, none⟩ = some (.slice A' n' c') ∧ V.cell? ⟨w.heap.size, 3, none⟩ = some (.slice A'' n'' c'') ∧ V.cell? ⟨w2.heap.size, 0, none⟩ = some (.string nm) ∧ V.cell? ⟨w2.heap.size, 1, none⟩ = some (.slice (some ⟨gc, oc, none⟩) 4 c1) ∧ V.cell? ⟨w2.heap.size, 2, none⟩ = some (.slice none 0 0) ∧ V.cell? ⟨w2.heap.size, 3, none⟩ = some (.slice (some ⟨ge, 0, none⟩) zs.length c5)) := hide fun V hV => ⟨bat hV hs6 f0, bat hV hs6 f1, bat hV hs6 f2, bat hV hs6 f3, bat hV hsz6 y0, bat hV hsz6 y1, bat hV hsz6 y2, bat hV hsz6 y3⟩
    go_region_held3 (fun V => V.cell? ⟨w.heap.size, 0, none⟩ = some (.string r.name) ∧ V.cell? ⟨w.heap.size, 1, none⟩ = some (.slice A n c) ∧ V.cell? ⟨w.heap.size, 2, none⟩ = some (.slice A' n' c') ∧ V.cell? ⟨w.heap.size, 3, none⟩ = some (.slice A'' n'' c'') ∧ V.cell? ⟨w2.heap.size, 0, none⟩ = some (.string nm) ∧ V.cell? ⟨w2.heap.size, 1, none⟩ = some (.slice (some ⟨gc, oc, none⟩) 4 c1) ∧ V.cell? ⟨w2.heap.size, 2, none⟩ = some (.slice none 0 0) ∧ V.cell? ⟨w2.heap.size, 3, none⟩ = some (.slice (some ⟨ge, 0, none⟩) zs.length c5)) (first | exact HK.out _ kk5 | exact HK.out _ kk4 | exact HK.out _ kk3 | exact HK.out _ kk2 | exact HK.out _ kk1 | exact HK.out _ (Below.refl _ _).drew | exact HK.out _ (Below.refl _ _) | go_keep) (first | (go_at_call 7; (with_reducible refine (HA.out _ ?_).mono ?_); exact (Below.refl _ _).drew; rintro e V1 ⟨rfl, hk1⟩; have kk1 := below_trans (Below.refl W6.heap.size W6).drew hk1) | (go_at_call 8; (with_reducible refine (HB.out _ ?_).mono ?_); exact kk1; rintro e V2 ⟨rfl, hk2⟩; have kk2 := below_trans kk1 hk2) | (go_at_call 7; (with_reducible refine (HD.out _ ?_).mono ?_); exact kk2; rintro e V3 ⟨rfl, hk3⟩; have kk3 := below_trans kk2 hk3) | (go_at_call 8; (with_reducible refine (HE.out _ ?_).mono ?_); exact kk3; rintro e V4 ⟨rfl, hk4⟩; have kk4 := below_trans kk3 hk4) | (go_at_call 5; refine (plain_any _).mono ?_; rintro e V5 ⟨rfl, hk5⟩; have kk5 := below_trans kk4 hk5))
    have hend := below_trans hbb6 kk5
    go_wp2
    go_ret
    exact ⟨rfl, hend⟩
end Go.Proofs.Ytmnhahilbbnkkaa
