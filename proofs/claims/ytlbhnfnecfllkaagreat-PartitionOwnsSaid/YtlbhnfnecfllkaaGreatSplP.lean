/-
  partition.Split: the partitions of a bag, by ascending day.
-/
import Derived.Test.YtlbhnfnecfllkaaGreatByDay
import Derived.Test.YtlbhnfnecfllkaaGreatGrpK
import Derived.Test.YtlbhnfnecfllkaaGreatLay
namespace Go.Proofs.YtlbhnfnecfllkaaGreat
open Go.RowKit
set_option linter.unusedSimpArgs false
set_option linter.unusedVariables false

theorem part_info : (Tryz.prog.info? 44).map (fun i => (i.zero, i.size, i.bytes)) = some (some (.agg #[.int .i64 0, .slice none 0 0]), 2, 32) := by kernel_rfl
theorem firstErr_all {α : Type} {f : Nat → α → Int} {l : List α} : ∀ {k : Nat}, firstErr f k l = 0 → (∀ i j x, f i x = f j x) → ∀ x ∈ l, f 0 x = 0 := by
  induction l with
  | nil => intro k h hf x hx; cases hx
  | cons y l ih =>
    intro k h hf x hx
    rw [firstErr] at h
    by_cases hy : f k y ≠ 0
    · rw [if_pos hy] at h; exact absurd h hy
    · rw [if_neg hy] at h
      rcases List.mem_cons.1 hx with rfl | hx
      · rw [hf 0 k]; omega
      · exact ih h hf x hx
theorem scheme_ok {cols : List Col} {col : ByteArray} {z : Zone} {rows : List Ent} (h : schemeErr cols col z rows = 0) : (findS cols col z).2 = 0 ∧ bagErr rows = 0 ∧ ∀ x ∈ rows, rowErr cols x.row = 0 := by
  have h1 : (findS cols col z).2 = 0 := by
    by_cases q : (findS cols col z).2 = 0
    · exact q
    · rw [scheme_find q] at h; exact h
  have h2 : bagErr rows = 0 := by
    by_cases q : bagErr rows = 0
    · exact q
    · rw [scheme_bag h1 q] at h; exact h
  rw [scheme_rows h1 h2] at h
  exact ⟨h1, h2, firstErr_all h fun _ _ _ => rfl⟩
theorem cols_len {cols : List Col} (h : colsErr cols = 0) : cols.length ≤ 12 := by
  rw [colsErr] at h
  split at h
  · omega
  · omega
theorem find_cols {cols : List Col} {col : ByteArray} {z : Zone} (h : (findS cols col z).2 = 0) : colsErr cols = 0 := by
  by_cases q : colsErr cols = 0
  · exact q
  · rw [findS_cols q] at h; exact h
theorem bag_len {rows : List Ent} (h : bagErr rows = 0) : rows.length ≤ 4096 := by
  rw [bagErr] at h
  split at h
  · omega
  · omega
theorem scheme_fit {cols : List Col} {col : ByteArray} {z : Zone} {rows : List Ent} (h : schemeErr cols col z rows = 0) : (∀ x ∈ rows, (findS cols col z).1 < x.row.length) ∧ (∀ x ∈ rows, x.row.length ≤ 4096) ∧ rows.length ≤ 4096 := by
  obtain ⟨h1, h2, h3⟩ := scheme_ok h
  have h4 := cols_len (find_cols h1)
  refine ⟨fun x hx => ?_, fun x hx => ?_, bag_len h2⟩
  · have := rowErr_len (h3 x hx)
    have := findS_lt (cols := cols) (col := col) (z := z)
    omega
  · have := rowErr_len (h3 x hx)
    omega
theorem size_le {H : Type} {P : Program} {K : TypeId} {R : Value → Option (DataW H × List MemPlace)} {w : World} {b n : Nat} {D : DataW H} (h : w.ownsMap P K R b n D) : Maps.size D ≤ n := by
  obtain ⟨es, clock, _, _, hs, rfl⟩ := h
  show (List.foldr DataW.insert [] _).length ≤ n
  rw [length_sorted]
  simpa using hs

/-- Blocks of entries or of values. -/
def SP (w : World) (k : Nat) : Prop := TyAt w 63 k ∨ TyAt w 65 k
theorem SP.lt {w : World} {k : Nat} (h : SP w k) : k < w.heap.size := h.elim TyAt.lt TyAt.lt
theorem SP.below {w w' : World} {k : Nat} (h : SP w k) (hb : Below w.heap.size w w') : SP w' k := h.imp (fun h => h.below hb) (fun h => h.below hb)
theorem FreshEnts.sp {w0 w : World} {v : Value} {zs : List Ent} (h : FreshEnts w0 w v zs) : ∃ A c, v = .slice A zs.length c ∧ Sl w (SP w) A zs.length c zs := by
  obtain ⟨cs, h1, h2⟩ := h
  obtain ⟨A, c, e, hs, _⟩ := sl_of_own (T := SP w) h1 h2 (fun k hk => .inr hk.2) rfl (fun g _ hg => .inl hg)
  exact ⟨A, c, e, hs⟩
/-- Partitions in a slice of the call's own. -/
def OwnParts (w0 w : World) (v : Value) (ps : List Partn) : Prop := ∃ cs, w.ownsRow w0.heap.size 44 2 v ps.length cs ∧ Cells w (SP w) cs ps
theorem OwnParts.nil (w0 w : World) : OwnParts w0 w (.slice none 0 0) [] := ⟨[], World.ownsRow_nil _ _ _ _, rfl⟩
theorem OwnParts.below {w0 w w1 : World} {v : Value} {ps : List Partn} (h : OwnParts w0 w v ps) (hb : Below w.heap.size w w1) : OwnParts w0 w1 v ps := by
  obtain ⟨cs, h1, h2⟩ := h
  exact ⟨cs, own_keep h1 (fun g hg => hb.block g (h1.lt g hg).2), (h2.keep ((Same.below hb).sub fun k hk => hk.lt)).mono fun k hk => hk.below hb⟩
theorem OwnParts.inn {w0 w : World} {v : Value} {ps : List Partn} (h : OwnParts w0 w v ps) : ∃ A c, v = .slice A ps.length c ∧ In w A ps.length c ps := by
  obtain ⟨cs, h1, h2⟩ := h
  obtain ⟨A, c, e, hs, _⟩ := sl_of_own (T := fun k => k < w.heap.size) h1 h2 (fun k hk => hk.lt) rfl (fun g _ hg => hg.lt)
  exact ⟨A, c, e, hs⟩
theorem OwnParts.add {w00 w0 w1 : World} {v v1 : Value} {ps : List Partn} {cs : List Value} {p : Partn} {A : Option Addr} {n c : Nat} (hown : w0.ownsRow w00.heap.size 44 2 v ps.length cs) (hc : Cells w0 (SP w0) cs ps)
    (hx : Sl w0 (SP w0) A n c p.rows) (h64 : I64 p.day) (hs : ∀ k, k < w0.heap.size → v.ownBlock ≠ some k → w1.heap[k]? = w0.heap[k]?)
    (hown1 : w1.ownsRow w00.heap.size 44 2 v1 (ps.length + 1) (cs ++ [.int .i64 p.day, .slice A n c])) : OwnParts w00 w1 v1 (ps ++ [p]) := by
  have h1 : Same (SP w0) w0 w1 := fun k hk => hs k hk.lt fun e => by
    have h2 := own_ty hown e
    rcases hk with hk | hk
    · exact TyAt.ne h2 hk (by decide) rfl
    · exact TyAt.ne h2 hk (by decide) rfl
  have h2 : ∀ k, SP w0 k → SP w1 k := fun k hk => by
    have e := h1 k hk
    rcases hk with ⟨q, hq⟩ | ⟨q, hq⟩
    · exact .inl ⟨q, e.trans hq⟩
    · exact .inr ⟨q, e.trans hq⟩
  have h3 : Rep.rd w1 (SP w1) [.int .i64 p.day, .slice A n c] p := ⟨A, n, c, rfl, (hx.keep h1).mono h2, h64⟩
  exact ⟨_, by rw [List.length_append]; exact hown1, Cells.app (Cells.one h3) ((hc.keep h1).mono h2)⟩
theorem one_part {A : Option Addr} {n c : Nat} {m : Int} : ∀ u ∈ [Value.int .i64 m, Value.slice A n c], u.oneCell' = true := by
  intro u hu
  simp at hu
  rcases hu with rfl | rfl <;> rfl

theorem flat_ints : ∀ ks : List Int, ks.flatMap Flat.cs = ks.map (Value.int .i64)
  | [] => rfl
  | x :: l => by rw [List.flatMap_cons, List.map_cons, flat_ints l]; rfl
set_option maxHeartbeats 4000000 in
set_option maxRecDepth 100000 in
theorem splitP_any (w : World) (A1 : Option Addr) (n1 c1 : Nat) (cols : List Col) (hc : In w A1 n1 c1 cols) (col : ByteArray) (A : Option Addr) (n c : Nat) (z : Zone) (hx : In w A n c z.shifts) (ho : I64 z.offset) (A2 : Option Addr) (n2 c2 : Nat) (rows : List Ent) (hr : In w A2 n2 c2 rows) :
    Calls Tryz.prog 12 #[.slice A1 n1 c1, .string col, .agg #[.string z.name, .int .i64 z.offset, .slice A n c], .slice A2 n2 c2] w
      fun e w' => (∃ B m d ps, e = .returned (.tuple #[.slice B m d, .int .i64 (schemeErr cols col z rows)]) ∧ In w' B m d ps ∧ (schemeErr cols col z rows ≠ 0 → ps = []) ∧ (schemeErr cols col z rows = 0 → IsSplit (findS cols col z).1 z rows ps)) ∧ Below w.heap.size w w' := by
  obtain ⟨i0, hi, hz0, hz1, hz2⟩ := info_parts part_info
  have HFIT := hide (scheme_fit (cols := cols) (col := col) (z := z) (rows := rows))
  obtain ⟨E, hE⟩ : ∃ E, schemeErr cols col z rows = E := ⟨_, rfl⟩
  have HEE := hide hE
  rw [hE]
  clear hE
  go_enter Tryz.func12, Tryz.ntmps12
  go_wp2_with fail
  refine (checkP_any _ _ _ _ cols (hc.below below_alloc) col A n c z (hx.below below_alloc) ho _ _ _ rows (hr.below below_alloc)).mono ?_
  rintro e w1 ⟨rfl, hb1⟩
  have hbb := below_trans below_alloc hb1
  have g0 := bat (b := w.heap.size) (o := 0) (v := .string z.name) hb1 (by simp) (by simp [go_sem])
  have g1 := bat (b := w.heap.size) (o := 1) (v := .int .i64 z.offset) hb1 (by simp) (by simp [go_sem])
  have g2 := bat (b := w.heap.size) (o := 2) (v := .slice A n c) hb1 (by simp) (by simp [go_sem])
  clear hb1
  rw [HEE.out]
  by_cases h0 : E = 0
  · subst h0
    obtain ⟨hf1, hf2, hf3⟩ := HFIT.out HEE.out
    generalize hat : (findS cols col z).1 = at_ at *
    have hn2 := hr.len
    have HF1 := hide hf1
    have HF2 := hide hf2
    clear hf1 hf2
    go_wp2_with fail
    refine (byDay_any _ A n c z (hx.below hbb) ho _ _ _ rows (hr.below hbb) (by omega) at_ HF1.out HF2.out).mono ?_
    rintro e w2 ⟨⟨mb, rfl, hm⟩, hb2⟩
    have HBB2 := hide (below_trans hbb hb2)
    have HM := hide (hm.rebase hbb.size)
    clear hm hb2 g0 g1 g2
    go_wp2_with fail
    refine (keys_call _ _).mono ?_
    rintro e w3 ⟨rfl, rfl⟩
    obtain ⟨D, f, hown, _, _, _, hkeys, _⟩ := HM.out
    have hsz := size_le hown
    go_wp2_with fail
    refine (sorted_call mb _ D RV w2 hown (by unfold maxLen; omega) (by omega)).mono ?_
    rintro e w4 ⟨v4, ss, rfl, hp, hrow, hb4⟩
    obtain ⟨ks1, ks2, ks3⟩ := sorted_asc hown Tryz.underlying3 hp
    have hkl : (ss.mergeSort fun x y => decide (x ≤ y)).length = ss.length := List.length_mergeSort _
    generalize (ss.mergeSort fun x y => decide (x ≤ y)) = ks at *
    have hb4' : Below (w2.alloc (.cells #[.map (some mb)] 73)).heap.size (w2.alloc (.cells #[.map (some mb)] 73)) w4 := by rw [World.size_alloc]; exact hb4
    have HB24 := hide (below_trans below_alloc hb4')
    have hk4096 : ks.length ≤ 4096 := by
      rw [hkl, hp.length_eq]
      have : (intKeys D).length = Maps.size D := by
        cases D <;> simp [intKeys, Maps.size]
      omega
    obtain ⟨B4, d4, rfl, hk4, _⟩ := sl_of_own (S := fun _ => False) (T := fun k => k < w4.heap.size) hrow (by rw [← flat_ints]; exact cells_flat w4 _ ks3) (fun _ h => h.elim) hkl (fun g _ hg => hg.lt)
    have HK4 : Hid (In w4 B4 ss.length d4 ks) := hide hk4
    have HM4 := hide (HM.out.below HB24.out)
    have HASC := hide ks1
    have HMEM : Hid (∀ d, d ∈ ks ↔ d ∈ daysR at_ z rows) := hide fun d => (ks2 d).trans (hkeys d)
    have HI64 := hide ks3
    have HBB4 := hide (below_trans HBB2.out HB24.out)
    have hss : ss.length ≤ 4096 := by omega
    generalize ss.length = m at *
    clear hp hrow hb4 hb4' hk4 ks1 ks2 ks3 hown hkeys
    go_wp2
    go_loopw [13, 35] (fun o i wr => ∃ k : Nat, k ≤ m ∧ i = .int .i64 k ∧ OwnParts w4 wr o ((ks.take k).map fun d => ⟨d, ofDay at_ z rows d⟩) ∧ Below w4.heap.size w4 wr) (fun _ i _ => m - (RowKit.intOf i).toNat)
    case atStart => exact ⟨0, Nat.zero_le _, rfl, OwnParts.nil _ _, Below.refl _ _⟩
    case round =>
      obtain ⟨k, hk, rfl, ho5, hb5⟩ := hrel
      have HO5 := hide ho5
      have HB5 := hide hb5
      clear ho5 hb5
      by_cases hlt : k < m
      · obtain ⟨b, off, x, rfl, hBb, HX, e0, e1⟩ := (HK4.out.below HB5.out).int hlt
        have k0 : (0 : Int) ≤ (k : Int) := by omega
        have k1 : (k : Int) < (m : Int) := by omega
        obtain ⟨v, hlook, hf⟩ := (HM4.out.below HB5.out).get Tryz.underlying73 Tryz.underlying3 (Tryz.zeroValue26 wr) (d := x) (HI64.out x (mem_of_drop HX.out))
        obtain ⟨A6, c6, rfl, hs6⟩ := hf.sp
        have HS6 := hide hs6
        obtain ⟨cs, hown, hcells⟩ := HO5.out
        have hl5 : ((ks.take k).map fun d => (⟨d, ofDay at_ z rows d⟩ : Partn)).length = k := by rw [List.length_map, List.length_take]; omega
        rw [hl5] at hown
        have HOW := hide hown
        have HCE := hide hcells
        have HL5 := hide hl5
        clear hl5 hown hcells hs6 hf
        have hszr := HB5.out.size
        have HLE : Hid ((rows.filter fun y => dayRow at_ z y.row == x).length ≤ 1048576) := hide (Nat.le_trans (List.length_filter_le _ _) (by omega))
        have HOF : Hid (ofDay at_ z rows x = rows.filter fun y => dayRow at_ z y.row == x) := hide rfl
        generalize (rows.filter fun y => dayRow at_ z y.row == x) = zs at *
        have h64 := HI64.out x (mem_of_drop HX.out)
        go_wp2_with (at_builtin; refine wpList_append_src _ rfl (.tmp 39) (.tmp 45) 31 rfl w4.heap.size 44 i0 _ 2 32 Tryz.underlying31 hi hz0 hz1 hz2 rfl (by decide) u13 k cs rfl (HOW.out.alloc _) (some ⟨wr.heap.size, 0, none⟩) 1 1 [.int .i64 x, .slice A6 zs.length c6] rfl (by intro h; cases h) (src_two (by simp [go_sem]) (by simp [go_sem])) one_part (by simp only [maxLen]; omega) (by omega) (by simp; omega) ?_; intro v1 w7 hown1 hg1 hat1)
        have HG1 := hide hg1
        have HO7 : Hid (OwnParts w4 w7 v1 (((ks.take k).map fun d => (⟨d, ofDay at_ z rows d⟩ : Partn)) ++ [⟨x, zs⟩])) := hide (OwnParts.add (p := ⟨x, zs⟩) (by rw [HL5.out]; exact HOW.out.alloc _) ((HCE.out.keep ((Same.below below_alloc).sub fun k hk => hk.lt)).mono fun k hk => hk.below below_alloc) ((HS6.out.keep ((Same.below below_alloc).sub fun k hk => hk.lt)).mono fun k hk => hk.below below_alloc) h64 (fun j hj hne => hg1.block j hj (fun e => hne e.symm)) (by rw [HL5.out]; exact hown1))
        have HB7 : Hid (Below w4.heap.size w4 w7) := hide ((HB5.out.alloc hszr _).grown hg1 (by simp; omega) (fun j e => (HOW.out.lt j e).1))
        clear hown1 hg1 hat1
        go_wp2
        go_roundw
        case rel =>
          refine ⟨k + 1, by omega, by go_num, ?_, HB7.out⟩
          rw [take_snoc HX.out, List.map_append, List.map_cons, List.map_nil, HOF.out]
          exact HO7.out
        case measure => simp [RowKit.intOf]; omega
      · have HF : Hid (ks.take k = ks) := hide (List.take_of_length_le (by omega))
        have HO6 := HO5.out
        rw [HF.out] at HO6
        obtain ⟨A6, c6, hv, hin⟩ := HO6.inn
        rw [List.length_map, HK4.out.len] at hv hin
        subst hv
        have HIN := hide hin
        clear HO6 hin
        go_wp2
        go_ret2
        exact ⟨⟨A6, _, c6, rfl, _, HIN.out, ⟨ks, HASC.out, HMEM.out, rfl⟩⟩, below_trans HBB4.out HB5.out⟩
  · have q : (E != 0) = true := by simpa using h0
    have HE := hide h0
    clear h0
    go_wp2
    all_goals (try (exfalso; go_light; simp_all; done))
    go_ret2
    exact ⟨⟨none, 0, 0, [], rfl, In.nil_, fun _ => rfl, fun h => absurd h HE.out⟩, hbb⟩
end Go.Proofs.YtlbhnfnecfllkaaGreat
