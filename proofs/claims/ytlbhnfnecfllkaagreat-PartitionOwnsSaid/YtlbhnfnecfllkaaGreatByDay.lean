/-
  slices.Clone of values, partition.copied, byDay: the rows of each day, copied.
-/
import Derived.Test.YtlbhnfnecfllkaaGreatDayP
import Derived.Test.YtlbhnfnecfllkaaGreatGrp
import Derived.Test.YtlbhnfnecfllkaaGreatGad
namespace Go.Proofs.YtlbhnfnecfllkaaGreat
open Go.RowKit
set_option linter.unusedSimpArgs false
set_option linter.unusedVariables false

set_option maxHeartbeats 1000000 in
set_option maxRecDepth 100000 in
theorem clone_any (w : World) (A : Option Addr) (n c : Nat) (xs : List Val) (hx : In w A n c xs) (hn : n ≤ 1048576) :
    Calls Tryz.prog 71 #[.slice A n c] w fun e w' => (∃ A' c', e = .returned (.slice A' n c') ∧ Sl w' (New w w' 65) A' n c' xs) ∧ Below w.heap.size w w' := by
  obtain ⟨i0, hi, hz0, hz1, hz2⟩ := info_parts val_info
  have hlen := hide hx.len
  have kn := fun (W : World) (a : Option Addr) (l c : Nat) => Lib.run_eql_slice_nil (P := Tryz.prog) W 61 65 a l c 0 0 Tryz.underlying61
  cases A with
  | none =>
    have h0 : c = 0 := hx.2.2.2.1 rfl
    have h1 : n = 0 := by have := hx.2.1; omega
    subst h0 h1
    have he : xs = [] := List.eq_nil_of_length_eq_zero hx.1
    subst he
    go_enter Tryz.func71, Tryz.ntmps71
    go_wp2
    go_ret
    exact ⟨⟨_, _, rfl, Sl.nil_⟩, Below.refl _ _⟩
  | some ad =>
    obtain ⟨cs, HC, HS⟩ := Sl.cells (hx.below (below_alloc (o := .cells #[] 65)))
    have h1 := cells_vals HC
    have HC := hide HC
    go_enter Tryz.func71, Tryz.ntmps71
    go_wp2_with (at_builtin; refine wpList_append_src _ rfl (.tmp 5) (.tmp 6) 61 rfl w.heap.size 65 i0 _ 3 32 Tryz.underlying61 hi hz0 hz1 hz2 rfl (by decide) (.slice (some ⟨w.heap.size, 0, none⟩) 0 0) 0 [] rfl (World.ownsRow_made w #[] 0 (Nat.le_refl _) (by decide) rfl) (some ad) n c cs rfl (fun h => by cases h) HS h1 (by simp only [maxLen]; omega) (by omega) (by simp) ?_; intro v1 w3 hown1 hg1 hat1)
    have hb3 : Below w.heap.size w w3 := (below_alloc).grown hg1 (by simp) (fun j e => by simp [Value.ownBlock] at e; omega)
    have hown2 : w3.ownsRow w.heap.size 65 3 v1 n cs := by simpa using hown1
    obtain ⟨A', c', rfl, hsl, _⟩ := sl_of_own (S := fun _ => False) (T := New w w3 65) hown2 (cells_val_any HC.out) (fun _ h => h.elim) hlen.out (fun g hg ht => ⟨hg, ht⟩)
    go_ret
    exact ⟨⟨A', c', rfl, hsl⟩, hb3⟩

/-- Two cells of a block are written. -/
theorem set_two {w : World} {g : Nat} {u0 u1 v0 v1 : Value} (h0 : w.cell? ⟨g, 0, none⟩ = some u0) (h1 : w.cell? ⟨g, 1, none⟩ = some u1) :
    ∀ j v, [v0, v1][j]? = some v → ((w.setCell ⟨g, 0, none⟩ v0).setCell ⟨g, 1, none⟩ v1).cell? ⟨g, j, none⟩ = some v := by
  intro j v hv
  match j, hv with
  | 0, hv => simp at hv; subst hv; exact set_far (set_same h0) (.inr (by omega))
  | 1, hv => simp at hv; subst hv; exact set_same (set_far h1 (.inr (by omega)))
theorem Sl.setN {α : Type} [Rep α] {w0 w1 : World} {A : Option Addr} {n c : Nat} {xs : List α} {t t' b o : Nat} {v : Value} (h : Sl w1 (New w0 w1 t) A n c xs) (hb : TyAt w1 t' b) (hne : t ≠ t') : Sl (w1.setCell ⟨b, o, none⟩ v) (New w0 (w1.setCell ⟨b, o, none⟩ v) t) A n c xs := by
  refine (h.keep (fun k hk => ?_)).mono fun k hk => ⟨hk.1, hk.2.set _ _ _⟩
  exact Below.heap_setCell _ _ _ k (fun e => by
    have e : k = b := e
    exact TyAt.ne hk.2 hb hne e)
set_option maxHeartbeats 1000000 in
set_option maxRecDepth 100000 in
theorem copied_any (w : World) (x : Ent) (A : Option Addr) (n c : Nat) (hx : In w A n c x.row) (hn : n ≤ 1048576) (h64 : I64 x.count) :
    Calls Tryz.prog 45 #[.agg #[.slice A n c, .int .i64 x.count]] w fun e w' => (∃ A' c', e = .returned (.agg #[.slice A' n c', .int .i64 x.count]) ∧ Sl w' (New w w' 65) A' n c' x.row) ∧ Below w.heap.size w w' := by
  go_enter Tryz.func45, Tryz.ntmps45
  go_wp2_with fail
  refine (clone_any _ _ _ _ x.row (hx.below below_alloc2) hn).mono ?_
  rintro e w1 ⟨⟨A', c', rfl, hs⟩, hb1⟩
  have hbb := below_trans below_alloc2 hb1
  have g0 := bat (b := w.heap.size) (o := 0) (v := .slice A n c) hb1 (by simp; omega) (by simp [go_sem])
  have g1 := bat (b := w.heap.size) (o := 1) (v := .int .i64 x.count) hb1 (by simp; omega) (by simp [go_sem])
  have g2 := bat (b := w.heap.size + 1) (o := 0) (v := .slice none 0 0) hb1 (by simp) (by simp [go_sem])
  have g3 := bat (b := w.heap.size + 1) (o := 1) (v := .int .i64 0) hb1 (by simp) (by simp [go_sem])
  have t0 : RowBlk w1 w.heap.size 63 2 := ((RowBlk.made w #[.slice A n c, .int .i64 x.count] 63 2 rfl).below below_alloc).below hb1
  have t1 : RowBlk w1 (w.heap.size + 1) 63 2 := by
    have h := (RowBlk.made (w.alloc (.cells #[.slice A n c, .int .i64 x.count] 63)) #[.slice none 0 0, .int .i64 0] 63 2 rfl).below hb1
    rwa [World.size_alloc] at h
  have f0 := t0.frozen 0
  have f1 := t1.frozen 0
  have f2 := t1.frozen 1
  have T0 := hide t0.ty
  have T1 := hide t1.ty
  have G2 := hide g2
  have G3 := hide g3
  clear t0 t1
  have HS : Hid (Sl w1 (New w w1 65) A' n c' x.row) := hide (hs.mono fun k hk => ⟨by have := hk.1; simp at this; omega, hk.2⟩)
  clear hs hb1
  go_wp2
  have h2 := hide (set_two (v0 := .slice A' n c') (v1 := .int .i64 x.count) (set_far (b' := w.heap.size) (o' := 0) (v := .slice A' n c') G2.out (.inl (by omega))) (set_far (b' := w.heap.size) (o' := 0) (v := .slice A' n c') G3.out (.inl (by omega))))
  have hs2 := ((HS.out.setN (b := w.heap.size) (o := 0) (v := .slice A' n c') T0.out (by decide)).setN (b := w.heap.size + 1) (o := 0) (v := .slice A' n c') (T1.out.set _ _ _) (by decide)).setN (b := w.heap.size + 1) (o := 1) (v := .int .i64 x.count) ((T1.out.set _ _ _).set _ _ _) (by decide)
  refine bodyPost_ret (v := .agg #[.slice A' n c', .int .i64 x.count]) (results_cells (cs := [.slice A' n c', .int .i64 x.count]) rfl _ _ (w.heap.size + 1) _ rfl h2.out Tryz.underlying63 rfl (by kernel_rfl)) rfl ⟨⟨A', c', rfl, hs2⟩, ((hbb.setCell (Nat.le_refl _) _).setCell (Nat.le_succ _) _).setCell (Nat.le_succ _) _⟩

theorem dayVal_bd (z : Zone) (v : Val) : -1 ≤ dayVal z v ∧ dayVal z v ≤ 400000 := by
  rw [dayVal]
  split
  · split
    · rename_i h
      rw [dayErr] at h
      by_cases hz : zoneErr z ≠ 0
      · rw [if_pos hz] at h; exact absurd h hz
      · rw [if_neg hz] at h
        have := dayAt_nonneg z v.num
        have h2 : v.num ≤ 575999999 := by split at h <;> omega
        have := dayAt_le (z := z) (by omega) h2
        omega
    · omega
  · split <;> omega
theorem dayRow_bd (at_ : Int) (z : Zone) (row : List Val) : -1 ≤ dayRow at_ z row ∧ dayRow at_ z row ≤ 400000 := by
  rw [dayRow]
  split
  · omega
  · exact dayVal_bd z _
set_option maxHeartbeats 4000000 in
set_option maxRecDepth 100000 in
theorem byDay_any (w : World) (A : Option Addr) (n c : Nat) (z : Zone) (hx : In w A n c z.shifts) (ho : I64 z.offset) (A2 : Option Addr) (n2 c2 : Nat) (rows : List Ent) (hr : In w A2 n2 c2 rows) (hn : n2 ≤ 1048576) (at_ : Int)
    (hat : ∀ x ∈ rows, at_ < x.row.length) (hl : ∀ x ∈ rows, x.row.length ≤ 4096) :
    Calls Tryz.prog 36 #[.int .i64 at_, .agg #[.string z.name, .int .i64 z.offset, .slice A n c], .slice A2 n2 c2] w
      fun e w' => (∃ b, e = .returned (.map (some b)) ∧ GMap Tryz.prog 3 w w' b (fun x => dayRow at_ z x.row) rows) ∧ Below w.heap.size w w' := by
  obtain ⟨i0, hi, hz0, hz1, hz2⟩ := info_parts ent_info
  have h63 := hr.le
  have hmm := @run_makeMap Tryz.prog
  have HAT := hide hat
  have HL := hide hl
  clear hat hl
  go_enter Tryz.func36, Tryz.ntmps36
  go_wp2
  obtain ⟨w1, hw1⟩ : ∃ w1, w1 = w.alloc (.cells #[.string z.name, .int .i64 z.offset, .slice A n c] 25) := ⟨_, rfl⟩
  have g0 : w1.cell? ⟨w.heap.size, 0, none⟩ = some (.string z.name) := by rw [hw1]; simp [go_sem]
  have g1 : w1.cell? ⟨w.heap.size, 1, none⟩ = some (.int .i64 z.offset) := by rw [hw1]; simp [go_sem]
  have g2 : w1.cell? ⟨w.heap.size, 2, none⟩ = some (.slice A n c) := by rw [hw1]; simp [go_sem]
  have hb1 : Below w.heap.size w w1 := by rw [hw1]; exact below_alloc
  have hl1 : w.heap.size < w1.heap.size := lt_of_cell g0
  have HS1 : Hid (w1.heap.size = w.heap.size + 1) := hide (by rw [hw1]; simp)
  rw [← HS1.out, ← hw1]
  clear hw1
  have HM0 := hide (GMap.made Tryz.prog 3 w1 w1 (fun x => dayRow at_ z x.row) (Nat.le_refl _))
  have HB0 : Hid (Below w1.heap.size w1 (w1.alloc (.map #[] 0))) := hide below_alloc
  go_loopw [14] (fun i wr => ∃ k : Nat, k ≤ n2 ∧ i = .int .i64 k ∧ GMap Tryz.prog 3 w1 wr w1.heap.size (fun x => dayRow at_ z x.row) (rows.take k) ∧ Below w1.heap.size w1 wr) (fun i _ => n2 - (RowKit.intOf i).toNat)
  case atStart => exact ⟨0, Nat.zero_le _, rfl, HM0.out, HB0.out⟩
  case round =>
    obtain ⟨k, hk, rfl, hm, hb⟩ := hrel
    have HM := hide hm
    have HB := hide hb
    have p0 := bat hb hl1 g0
    have p1 := bat hb hl1 g1
    have p2 := bat hb hl1 g2
    have lr := lt_of_cell p0
    clear hm hb
    by_cases hlt : k < n2
    · obtain ⟨b, off, x, rfl, hBb, HX, Ax, An, Ac, e0, e1, e2, e3⟩ := (hr.below (below_trans hb1 HB.out)).ent hlt
      have k0 : (0 : Int) ≤ (k : Int) := by omega
      have k1 : (k : Int) < (n2 : Int) := by omega
      have HXM := hide (mem_of_drop HX.out)
      have HAL := hide (HL.out x HXM.out)
      have HAX : Hid (at_ < (An : Int)) := hide (by have h := HAT.out x HXM.out; have h2 := e2.len; omega)
      have HBW := hide (below_trans hb1 HB.out)
      obtain ⟨d, hd⟩ : ∃ d, dayRow at_ z x.row = d := ⟨_, rfl⟩
      have hbd := dayRow_bd at_ z x.row
      rw [hd] at hbd
      obtain ⟨v, hlook, hf, hback⟩ := HM.out.look Tryz.underlying73 Tryz.underlying3 (fun V => Tryz.zeroValue26 V) (d := d) ⟨by omega, by omega⟩ (by rw [List.length_take]; unfold maxLen; omega)
      have HFR := hide hf
      have HVO : Hid (∀ g, v.ownBlock = some g → w1.heap.size ≤ g ∧ g < wr.heap.size) := hide fun g hg => ⟨(HFR.out.row hg).1, (HFR.out.row hg).2.1⟩
      have HFL : Hid (((rows.take k).filter fun x => dayRow at_ z x.row == d).length ≤ k) := hide (Nat.le_trans (List.length_filter_le _ _) (by rw [List.length_take]; omega))
      obtain ⟨fl, hfl⟩ : ∃ fl, ((rows.take k).filter fun x => dayRow at_ z x.row == d).length = fl := ⟨_, rfl⟩
      rw [hfl] at HFL
      have flk := HFL.out
      have HFE := hide hfl
      have HD := hide hd
      have HLK := hide hlook
      have HBK := hide hback
      clear hfl hlook hback hf
      go_wp2_with fail
      refine (dayP_any _ A n c z (hx.below (below_trans HBW.out below_alloc)) ho _ _ _ x.row (e2.below below_alloc) at_ HAX.out).mono ?_
      rintro e w2 ⟨rfl, hb2⟩
      rw [HD.out]
      have x0 := bat (b := wr.heap.size) (o := 0) (v := .slice Ax An Ac) hb2 (by simp) (by simp [go_sem])
      have x1 := bat (b := wr.heap.size) (o := 1) (v := .int .i64 x.count) hb2 (by simp) (by simp [go_sem])
      have HQ2 : Hid (Below wr.heap.size wr w2) := hide (below_trans below_alloc hb2)
      have lx := lt_of_cell x0
      clear hb2 hd
      have HMB : Hid (w1.heap.size < wr.heap.size) := hide HM.out.lt
      have HXL : Hid (wr.heap.size < w2.heap.size) := hide lx
      have HX0 := hide x0
      have HX1 := hide x1
      have hinx : In w2 Ax An Ac x.row := e2.below HQ2.out
      go_wp2
      have l2 := HLK.out w2.drew (HQ2.out.block _ HMB.out)
      go_region_held3 (fun V => V.cell? ⟨wr.heap.size, 0, none⟩ = some (.slice Ax An Ac) ∧ V.cell? ⟨wr.heap.size, 1, none⟩ = some (.int .i64 x.count))
        (first | exact ⟨x0, x1⟩ | exact ⟨z0, z1⟩ | exact ⟨y0, y1⟩ | exact ⟨t0, t1⟩ | exact ⟨u0, u1⟩ | go_keep)
        (first
          | (go_at_call 45; refine (copied_any _ x Ax An Ac (by exact hinx.below (Below.refl _ _).drew) (by have h1 := HAL.out; have h2 := hinx.len; omega) e3).mono ?_; rintro e w3 ⟨⟨A3, c3, rfl, hs3⟩, hb3⟩; have HQ3 := hide (below_trans HQ2.out (below_undrew hb3)); have HB3 := hide (below_undrew hb3); have HQ4 : Hid (Below wr.heap.size wr (w3.alloc (.cells #[.slice A3 An c3, .int .i64 x.count] 63))) := hide (below_trans HQ3.out below_alloc); have u0 := bat HB3.out HXL.out HX0.out; have u1 := bat HB3.out HXL.out HX1.out; have t0 := bat (below_trans HB3.out (below_alloc (o := .cells #[.slice A3 An c3, .int .i64 x.count] 63))) HXL.out HX0.out; have t1 := bat (below_trans HB3.out (below_alloc (o := .cells #[.slice A3 An c3, .int .i64 x.count] 63))) HXL.out HX1.out; have l3 := HLK.out w3 (HQ3.out.block _ HMB.out); have l4 := HLK.out _ (HQ4.out.block _ HMB.out); have HS4 : Hid (Sl (w3.alloc (.cells #[.slice A3 An c3, .int .i64 x.count] 63)) (New w1 (w3.alloc (.cells #[.slice A3 An c3, .int .i64 x.count] 63)) 65) A3 An c3 x.row) := hide ((hs3.keep ((Same.below below_alloc).sub fun k hk => hk.2.lt)).mono fun k hk => ⟨Nat.le_trans (Nat.le_trans (Nat.le_of_lt HMB.out) HQ2.out.size) hk.1, hk.2.below below_alloc⟩); have HF4 := hide (HFR.out.below HQ4.out); clear hb3 hs3)
          | (obtain ⟨cs, hown, hcells⟩ := HF4.out; rw [HFE.out] at hown; refine step_append_src _ rfl (.tmp 27) (.tmp 30) 26 rfl w1.heap.size 63 i0 _ 2 32 Tryz.underlying26 hi hz0 hz1 hz2 rfl (by decide) v fl cs (by simp [Act.eval, Act.put]) hown (some ⟨w3.heap.size, 0, none⟩) 1 1 [.slice A3 An c3, .int .i64 x.count] (by simp [Act.eval, Act.put]) (by intro h; cases h) (by exact src_two (by simp [go_sem]) (by simp [go_sem])) one_ent (by simp only [maxLen]; omega) (by omega) (by have := HQ4.out.size; have := HMB.out; omega) ?_; intro v1 w4 hown1 hg1 hat1; rw [← HFE.out] at hown hown1; have hgb := (Below.grows HQ4.out v.ownBlock).trans hg1; obtain ⟨w5, hrun5, hm5, hg5⟩ := HBK.out w4 v1 x hgb HD.out (FreshEnts.add hown hcells HS4.out e3 (fun k hk hne => hg1.block k hk (fun e => hne e.symm)) hown1) (hat1.imp id (fun h => ⟨_, h, HQ4.out.size⟩)); have hxv : some wr.heap.size ≠ v.ownBlock := fun e => (by have := (HVO.out _ e.symm).2; omega); have hxm : some wr.heap.size ≠ some w1.heap.size := fun e => (by injection e with e; have := HMB.out; omega); have hx4 := lt_of_cell t0; have y0 := (World.cell?_of_block (a := ⟨wr.heap.size, 0, none⟩) (hg1.block wr.heap.size hx4 hxv)).trans t0; have y1 := (World.cell?_of_block (a := ⟨wr.heap.size, 1, none⟩) (hg1.block wr.heap.size hx4 hxv)).trans t1; have hx5 := lt_of_cell y0; have z0 := (World.cell?_of_block (a := ⟨wr.heap.size, 0, none⟩) (hg5.block wr.heap.size hx5 hxm)).trans y0; have z1 := (World.cell?_of_block (a := ⟨wr.heap.size, 1, none⟩) (hg5.block wr.heap.size hx5 hxm)).trans y1; have HM5 := hide hm5; have HB5 : Hid (Below w1.heap.size w1 w5) := hide (((HB.out.trans (HQ4.out.mono (Nat.le_of_lt HMB.out))).grown hg1 (Nat.le_trans (Nat.le_of_lt HMB.out) HQ4.out.size) (fun j e => (HVO.out j e).1)).grown hg5 (Nat.le_trans (Nat.le_trans (Nat.le_of_lt HMB.out) HQ4.out.size) hg1.size) (fun j e => by injection e with e; omega)); clear hown hcells hown1 hg1 hat1 hgb hm5 hg5 hxv hxm hx4 hx5))
      all_goals
        go_wp2
        go_roundw
        case rel => exact ⟨k + 1, by omega, by go_num, by rw [take_snoc HX.out]; exact HM5.out, HB5.out⟩
        case measure => simp [RowKit.intOf]; omega
    · have HF : Hid (rows.take k = rows) := hide (List.take_of_length_le (by have := hr.len; omega))
      have HMF := HM.out
      rw [HF.out] at HMF
      have HMF := hide HMF
      go_wp2
      go_ret
      exact ⟨⟨_, rfl, HMF.out.rebase hb1.size⟩, below_trans hb1 HB.out⟩
end Go.Proofs.YtlbhnfnecfllkaaGreat
