/-
  warehouseref22.CopyEntries, days, Split. warehouseref22.Split.
-/
import Derived.Test.YtlbhnfnecfllkaaGreatDayR
import Derived.Test.YtlbhnfnecfllkaaGreatSplP
import Derived.Test.YtlbhnfnecfllkaaGreatBtw
namespace Go.Proofs.YtlbhnfnecfllkaaGreat
open Go.RowKit
set_option linter.unusedSimpArgs false
set_option linter.unusedVariables false

set_option maxHeartbeats 4000000 in
set_option maxRecDepth 100000 in
theorem copyEnts_ref (w : World) (A : Option Addr) (n c : Nat) (xs : List Ent) (hx : In w A n c xs) (hn : n ≤ 1048576) (hrow : ∀ x ∈ xs, x.row.length ≤ 4096) :
    Calls Tryz.prog 40 #[.slice A n c] w
      fun e w' => (∃ v, e = .returned v ∧ FreshEnts w w' v xs) ∧ Below w.heap.size w w' := by
  obtain ⟨i0, hi, hz0, hz1, hz2⟩ := info_parts ent_info
  obtain ⟨i1, hj, hy0, hy1, hy2⟩ := info_parts val_info
  have h63 := hx.le
  go_enter Tryz.func40, Tryz.ntmps40
  go_wp2
  go_loopw [3, 4] (fun o i wr => ∃ k : Nat, k ≤ n ∧ i = .int .i64 k ∧ FreshEnts w wr o (xs.take k) ∧ Below w.heap.size w wr)
    (fun _ i _ => n - (RowKit.intOf i).toNat)
  case atStart => exact ⟨0, Nat.zero_le _, rfl, FreshEnts.nil _ _, Below.refl _ _⟩
  case round =>
    obtain ⟨k, hk, rfl, hf, hb⟩ := hrel
    have HF := hide hf
    clear hf
    by_cases hlt : k < n
    · obtain ⟨bl, off, x, rfl, hB, HX, Ax, nx, cx, e0, e1, e2, e3⟩ := hx.ent hlt
      replace e0 := bat hb hB e0
      replace e1 := bat hb hB e1
      have hBr := Nat.lt_of_lt_of_le hB hb.size
      obtain ⟨m1, m2⟩ := e3
      have hrx : x.row.length ≤ 4096 := hrow x (List.mem_of_getElem? (drop_get HX.out).1)
      have k0 : (0 : Int) ≤ (k : Int) := by omega
      have k1 : (k : Int) < (n : Int) := by omega
      obtain ⟨cs, hown, hcells⟩ := HF.out
      have HLK : Hid ((xs.take k).length = k) := hide (by rw [List.length_take, hx.len]; omega)
      rw [HLK.out] at hown
      have HW := hide hown
      have hsz := hb.size
      have HRW := hide (fun g (h : u3.ownBlock = some g) => (hown.lt g h).1)
      obtain ⟨rs, hrs, hsrc⟩ := Sl.cells e2
      have hAx : Ax = none → nx = 0 := fun h => by have := e2.2.2.2.1 h; have := e2.2.1; omega
      have hnx : nx ≤ 4096 := by rw [← e2.len]; exact hrx
      have h1s := cells_vals hrs
      have HSRC : Hid (∀ W, Below w.heap.size w W → Src W 3 Ax nx rs) := hide (fun W hW => ⟨hsrc.1, fun h0 => by
        obtain ⟨b', o', e, hc⟩ := hsrc.2 h0
        refine ⟨b', o', e, fun j u hu => ?_⟩
        have hcj := hc j u hu
        exact (hW.cell (p := ⟨b', o' + j, none⟩) (block_lt_of_cell hcj)).trans hcj⟩)
      have HRS := hide hrs
      have HCELLS := hide hcells
      clear hown hcells hsrc hrs
      go_wp2
      go_region_held3 (fun w' => w'.cell? ⟨bl, off + k * 2, none⟩ = some (.slice Ax nx cx) ∧ w'.cell? ⟨bl, off + k * 2 + 1, none⟩ = some (.int .i64 x.count)) (first | exact ⟨e0, e1⟩ | exact ⟨(hb2.cell (p := ⟨bl, off + k * 2, none⟩) hB).trans e0, (hb2.cell (p := ⟨bl, off + k * 2 + 1, none⟩) hB).trans e1⟩ | exact ⟨(hb1.cell (p := ⟨bl, off + k * 2, none⟩) hB).trans e0, (hb1.cell (p := ⟨bl, off + k * 2 + 1, none⟩) hB).trans e1⟩ | go_keep) (first | (refine step_append_src _ rfl (.const (.slice none 0 0)) (.tmp 16) 61 rfl w.heap.size 65 i1 _ 3 32 Tryz.underlying61 hj hy0 hy1 hy2 rfl (by decide) (.slice none 0 0) 0 [] rfl (World.ownsRow_nil _ _ _ _) Ax nx cx rs (by simp [Act.eval, Act.put]) hAx (by exact HSRC.out _ ((hb.drew))) h1s (by simp only [maxLen]; omega) (by omega) (by simp; omega) ?_; intro v0 w0 hown0 hg0 hat0; have hb1 : Below w.heap.size wr w0 := ((Below.refl w.heap.size wr).drew).grown hg0 (by simp; omega) (by simp [Value.ownBlock]); obtain ⟨A0, c0, rfl, hsl0, _⟩ := sl_of_own (S := fun _ => False) (T := New w w0 65) hown0 (cells_val_any HRS.out) (fun _ h => h.elim) (by rw [e2.len]; omega) (fun g hg ht => ⟨hg, ht⟩); rw [Nat.zero_add] at hsl0; have HSL0 := hide hsl0; have hbw0 : Below wr.heap.size wr w0 := ((Below.refl wr.heap.size wr).drew).grown hg0 (by simp) (by simp [Value.ownBlock]); have hsz0 : w.heap.size ≤ w0.heap.size := Nat.le_trans hsz hbw0.size; have HOWN0 := hide (own_keep HW.out (fun g hg => hbw0.block g (HW.out.lt g hg).2)); have HC0 := hide ((HCELLS.out.keep ((Same.below hbw0).sub fun k hk => hk.2.lt)).mono fun k (hk : New w wr 65 k) => (⟨hk.1, hk.2.below hbw0⟩ : New w w0 65 k)); clear hsl0 hown0 hg0 hat0) | (refine step_append_src _ rfl (.tmp 11) (.tmp 24) 26 rfl w.heap.size 63 i0 _ 2 32 Tryz.underlying26 hi hz0 hz1 hz2 rfl (by decide) u3 k cs (by simp [Act.eval, Act.put]) (by first | exact own_drew (HOWN0.out.alloc _) | exact HOWN0.out.alloc _) (some ⟨w0.heap.size, 0, none⟩) 1 1 [.slice A0 nx c0, .int .i64 x.count] (by simp [Act.eval, Act.put]) (by intro h; cases h) (by exact src_two (by simp [go_sem]) (by simp [go_sem])) one_ent (by simp only [maxLen]; omega) (by omega) (by simp; omega) ?_; intro v1 w1 hown1 hg1 hat1; have hb2 : Below w.heap.size wr w1 := (hb1.trans ((Below.refl w.heap.size w0).alloc hsz0 _)).grown hg1 (by simp; omega) HRW.out))
      have hf1 : FreshEnts w w1 v1 (xs.take k ++ [x]) := FreshEnts.add (by rw [HLK.out]; exact HOWN0.out) HC0.out HSL0.out ⟨m1, m2⟩ (fun k hk hne => (hg1.block k (by simp; omega) (fun e => hne e.symm)).trans (Below.heap_alloc _ _ _ hk)) (by rw [HLK.out]; exact hown1)
      have HF1 := hide hf1
      have hbw := hb.trans hb2
      clear hf1 hown1 hg1 hat1
      go_wp2
      go_roundw
      case rel => exact ⟨k + 1, by omega, by go_num, by rw [take_snoc HX.out]; exact HF1.out, hbw⟩
      case measure => simp [RowKit.intOf]; omega
    · have HFF : Hid (FreshEnts w wr u3 xs) := hide (by
        have h := HF.out
        rw [List.take_of_length_le (by rw [hx.len]; omega)] at h
        exact h)
      go_wp2
      go_ret
      exact ⟨⟨_, rfl, HFF.out⟩, hb⟩

set_option maxHeartbeats 4000000 in
set_option maxRecDepth 100000 in
theorem days_ref (w : World) (A1 : Option Addr) (n1 c1 : Nat) (cols : List Col) (hc : In w A1 n1 c1 cols) (col : ByteArray) (A : Option Addr) (n c : Nat) (z : Zone) (hx : In w A n c z.shifts) (ho : I64 z.offset) (A2 : Option Addr) (n2 c2 : Nat) (rows : List Ent) (hr : In w A2 n2 c2 rows) :
    Calls Tryz.prog 39 #[.slice A1 n1 c1, .string col, .agg #[.string z.name, .int .i64 z.offset, .slice A n c], .slice A2 n2 c2] w
      fun e w' => (∃ B d ds, e = .returned (.tuple #[.slice B ds.length d, .int .i64 (schemeErr cols col z rows)]) ∧ In w' B ds.length d ds ∧ (schemeErr cols col z rows = 0 → ds = daysR (findS cols col z).1 z rows)) ∧ Below w.heap.size w w' := by
  obtain ⟨i0, hi, hz0, hz1, hz2⟩ := info_parts int_infoB
  have h64 := hr.le
  have S1 := hide (scheme_find (cols := cols) (col := col) (z := z) (rows := rows))
  have S2 := hide (scheme_bag (cols := cols) (col := col) (z := z) (rows := rows))
  have S3 := hide (scheme_rows (cols := cols) (col := col) (z := z) (rows := rows))
  generalize schemeErr cols col z rows = E at *
  obtain ⟨F, hF⟩ : ∃ F, findS cols col z = F := ⟨_, rfl⟩
  rw [hF] at S1 S2 S3 ⊢
  obtain ⟨at_, fe⟩ := F
  have HFF := hide hF
  clear hF
  go_enter Tryz.func39, Tryz.ntmps39
  go_wp2_with fail
  refine (validateP_ref _ _ _ _ cols (hc.below below_alloc) col A n c z (hx.below below_alloc) ho).mono ?_
  rintro e w1 ⟨rfl, hb1⟩
  have hbb := below_trans below_alloc hb1
  have g0 := bat (b := w.heap.size) (o := 0) (v := .string z.name) hb1 (by simp) (by simp [go_sem])
  have g1 := bat (b := w.heap.size) (o := 1) (v := .int .i64 z.offset) hb1 (by simp) (by simp [go_sem])
  have g2 := bat (b := w.heap.size) (o := 2) (v := .slice A n c) hb1 (by simp) (by simp [go_sem])
  have l1 := lt_of_cell g0
  clear hb1
  rw [HFF.out]
  by_cases h0 : fe = 0
  · subst h0
    go_wp2_with fail
    refine (bag_ref _ _ _ _ rows (hr.below hbb)).mono ?_
    rintro e w2 ⟨rfl, hb2⟩
    have g0 := bat hb2 l1 g0
    have g1 := bat hb2 l1 g1
    have g2 := bat hb2 l1 g2
    have l2 := lt_of_cell g0
    have hbb2 := below_trans hbb hb2
    clear hb2 l1
    by_cases h1 : bagErr rows = 0
    · have HE : Hid (E = firstErr (fun _ x => rowErr cols x.row) 0 rows) := hide (S3.out (by trivial) h1)
      have hn2 := bag_len h1
      rw [hr.len] at hn2
      rw [h1]
      clear h1
      go_wp2
      go_loopw [12, 13] (fun o i wr => ∃ (k : Nat) (B : Option Addr) (d : Nat) (ds : List Int), k ≤ n2 ∧ i = .int .i64 k ∧ o = .slice B k d ∧ ds.length = k ∧ ds = (daysR at_ z rows).take k ∧ E = firstErr (fun _ x => rowErr cols x.row) k (rows.drop k) ∧ Stk w2.heap.size wr 3 B d ds ∧ Below w2.heap.size w2 wr) (fun _ i _ => n2 - (RowKit.intOf i).toNat)
      case atStart => exact ⟨0, none, 0, [], Nat.zero_le _, rfl, rfl, rfl, rfl, HE.out, Stk.nil_ _ _ _, Below.refl _ _⟩
      case round =>
        obtain ⟨k, B, d, ds, hk, rfl, rfl, hdl, hds, heq, hst, hb⟩ := hrel
        have HDL := hide hdl
        have HDS := hide hds
        have HQ := hide heq
        have HST := hide hst
        have HB := hide hb
        have p0 := bat hb l2 g0
        have p1 := bat hb l2 g1
        have p2 := bat hb l2 g2
        have lr := lt_of_cell p0
        clear hdl hds heq hst
        by_cases hlt : k < n2
        · obtain ⟨b, off, x, rfl, hBb, HX, Ax, nx, cx, e0, e1, e2, e3⟩ := (hr.below (below_trans hbb2 hb)).ent hlt
          have k0 : (0 : Int) ≤ (k : Int) := by omega
          have k1 : (k : Int) < (n2 : Int) := by omega
          have P0 := hide p0
          have P1 := hide p1
          have P2 := hide p2
          have E0 := hide e0
          have LR := hide lr
          have LB := hide hBb
          have HBW := hide (below_trans hbb2 hb)
          obtain ⟨D, hD⟩ : ∃ D, dayPS cols col z x.row = D := ⟨_, rfl⟩
          have HD := hide hD
          clear hb hD
          go_wp2
          go_region_held3 (fun V => V.cell? ⟨w.heap.size, 0, none⟩ = some (.string z.name) ∧ V.cell? ⟨w.heap.size, 1, none⟩ = some (.int .i64 z.offset) ∧ V.cell? ⟨w.heap.size, 2, none⟩ = some (.slice A n c) ∧ V.cell? ⟨b, off + k * 2, none⟩ = some (.slice Ax nx cx))
            (first | exact ⟨p0, p1, p2, e0⟩ | exact ⟨bat HB8.out LR.out P0.out, bat HB8.out LR.out P1.out, bat HB8.out LR.out P2.out, bat HB8.out LB.out E0.out⟩)
            (first | (go_at_call 69; refine (dayPS_ref _ _ _ _ cols (by exact hc.below HBW.out.drew) col A n c z (by exact hx.below HBW.out.drew) ho _ _ _ x.row (by exact e2.below (Below.refl _ _).drew)).mono ?_; rintro e w8 ⟨rfl, hb8⟩; have HB8 := hide (below_undrew hb8); rw [HD.out]; clear hb8))
          by_cases hre : rowErr cols x.row = 0
          · have hDe : D = (dayRow at_ z x.row, 0) := by rw [← HD.out, dayPS, if_neg (by rw [HFF.out]; simp), if_neg (by simp [hre]), HFF.out]
            have HN : Hid (E = firstErr (fun _ x => rowErr cols x.row) (k + 1) (rows.drop (k + 1))) := hide (by rw [HQ.out, HX.out]; exact firstErr_zero hre)
            subst hDe
            have hbd := dayRow_bd at_ z x.row
            have HDN : Hid (ds ++ [dayRow at_ z x.row] = (daysR at_ z rows).take (k + 1)) := hide (by
              have hm : (daysR at_ z rows).drop k = dayRow at_ z x.row :: (daysR at_ z rows).drop (k + 1) := by
                rw [daysR, ← List.map_drop, HX.out, List.map_cons, List.map_drop]
              rw [take_snoc hm, ← HDS.out])
            generalize dayRow at_ z x.row = q at *
            have hsz : w2.heap.size ≤ w8.heap.size := Nat.le_trans HB.out.size HB8.out.size
            have HST8 := hide (HST.out.keep HB8.out)
            have HKL := hide (Nat.le_of_eq HDL.out.symm)
            clear hre
            go_wp2_with (at_builtin; refine wpList_push (α := Int) _ rfl (.tmp 49) (.tmp 51) 27 rfl w2.heap.size 3 i0 _ 8 Tryz.underlying27 hi hz0 hz1 hz2 rfl (by decide) B d k ds (HST8.out.keep below_alloc) HKL.out rfl q ⟨by omega, by omega⟩ w8.heap.size rfl (oneAt_new _ _ _ _ rfl) (by omega) (by simp; omega) ?_; intro A' c' w9 hst9 hb9)
            have HS9 : Hid (Stk w2.heap.size w9 3 A' c' (ds ++ [q])) := hide (by
              rw [List.take_of_length_le (by rw [HDL.out]; omega)] at hst9
              exact hst9)
            have HB9 : Hid (Below w2.heap.size w2 w9) := hide (((below_trans HB.out HB8.out).alloc hsz _).trans hb9)
            clear hst9 hb9
            go_wp2
            go_roundw
            case rel => exact ⟨k + 1, A', c', ds ++ [q], by omega, by go_num, rfl, by rw [List.length_append, HDL.out]; rfl, HDN.out, HN.out, HS9.out, HB9.out⟩
            case measure => simp [RowKit.intOf]; omega
          · have hDe : D = (0, rowErr cols x.row) := by rw [← HD.out, dayPS, if_neg (by rw [HFF.out]; simp), if_pos hre]
            have HN : Hid (E = rowErr cols x.row) := hide (by rw [HQ.out, HX.out]; exact firstErr_err rfl hre)
            subst hDe
            have q : (rowErr cols x.row != 0) = true := by simpa using hre
            have HRE := hide hre
            clear hre
            have HBX := hide (below_trans HBW.out HB8.out)
            generalize rowErr cols x.row = r at *
            go_wp2
            all_goals (try (exfalso; go_light; simp_all; done))
            go_ret2
            exact ⟨⟨none, 0, [], by rw [HN.out]; rfl, In.nil_, fun h => absurd (HN.out.symm.trans h) HRE.out⟩, HBX.out⟩
        · have HF : Hid (E = 0) := hide (by rw [HQ.out, drop_end hr.len (by omega), firstErr])
          have HD2 : Hid (ds = daysR at_ z rows) := hide (by rw [HDS.out, List.take_of_length_le (by rw [daysR, List.length_map, hr.len]; omega)])
          have HBX := hide (below_trans hbb2 HB.out)
          have hin := HST.out.inn
          have HIN := hide hin
          clear hin
          go_wp2
          go_ret2
          exact ⟨⟨B, d, ds, by rw [HF.out, HDL.out]; rfl, HIN.out, fun _ => HD2.out⟩, HBX.out⟩
    · have HE : Hid (E = bagErr rows) := hide (S2.out (by trivial) h1)
      have q : (bagErr rows != 0) = true := by simpa using h1
      have H1 := hide h1
      clear h1
      generalize bagErr rows = r at *
      go_wp2
      all_goals (try (exfalso; go_light; simp_all; done))
      go_ret2
      exact ⟨⟨none, 0, [], by rw [HE.out]; rfl, In.nil_, fun h => absurd (HE.out.symm.trans h) H1.out⟩, hbb2⟩
  · have HE : Hid (E = fe) := hide (S1.out h0)
    have q : (fe != 0) = true := by simpa using h0
    have H0 := hide h0
    clear h0
    go_wp2
    all_goals (try (exfalso; go_light; simp_all; done))
    go_ret2
    exact ⟨⟨none, 0, [], by rw [HE.out]; rfl, In.nil_, fun h => absurd (HE.out.symm.trans h) H0.out⟩, hbb⟩
end Go.Proofs.YtlbhnfnecfllkaaGreat

namespace Go.Proofs.YtlbhnfnecfllkaaGreat
open Go.RowKit
set_option linter.unusedSimpArgs false
set_option linter.unusedVariables false

/-- A partition that a call builds in block bp: its rows lie in blocks that were there before. -/
def PBlk (w0 w : World) (bp : Nat) (d : Int) (zs : List Ent) : Prop := ∃ v cs, w.heap[bp]? = some (.cells #[.int .i64 d, v] 44 (0, 0)) ∧ w.ownsRow w0.heap.size 63 2 v zs.length cs ∧ Cells w (fun k => k < w0.heap.size) cs zs
theorem PBlk.made (w0 : World) (d : Int) : PBlk w0 (w0.alloc (.cells #[.int .i64 d, .slice none 0 0] 44)) w0.heap.size d [] := ⟨_, [], heap_alloc_new w0 _, World.ownsRow_nil _ _ _ _, rfl⟩
theorem PBlk.add {w0 w9 : World} {bp : Nat} {d : Int} {v v1 : Value} {cs : List Value} {zs : List Ent} {x : Ent} {A : Option Addr} {n c : Nat} (hbp : w9.heap[bp]? = some (.cells #[.int .i64 d, v] 44 (0, 0)))
    (hb : w0.heap.size ≤ bp) (hc : Cells w9 (fun k => k < w0.heap.size) cs zs) (hx : Sl w9 (fun k => k < w0.heap.size) A n c x.row) (h64 : I64 x.count) (hown : w9.ownsRow w0.heap.size 63 2 v1 (zs.length + 1) (cs ++ [.slice A n c, .int .i64 x.count])) :
    PBlk w0 (w9.setCell ⟨bp, 1, none⟩ v1) bp d (zs ++ [x]) := by
  have hh : ∀ k, k ≠ bp → (w9.setCell ⟨bp, 1, none⟩ v1).heap[k]? = w9.heap[k]? := fun k hk => by simp [World.setCell, Array.getElem?_modify, show ¬ bp = k from fun e => hk e.symm]
  have hs : Same (fun k => k < w0.heap.size) w9 (w9.setCell ⟨bp, 1, none⟩ v1) := fun k hk => hh k (by omega)
  refine ⟨v1, cs ++ [.slice A n c, .int .i64 x.count], by simp [World.setCell, Array.getElem?_modify, hbp], ?_, ?_⟩
  · rw [List.length_append]
    have hty : TyAt w9 44 bp := ⟨_, hbp⟩
    exact own_keep hown (fun g hg => hh g (TyAt.ne (own_ty hown hg) hty (by decide)))
  · have h3 : Rep.rd (w9.setCell ⟨bp, 1, none⟩ v1) (fun k => k < w0.heap.size) [.slice A n c, .int .i64 x.count] x := ⟨A, n, c, rfl, hx.keep hs, h64⟩
    exact Cells.app (Cells.one h3) (hc.keep hs)
theorem PBlk.inn {w0 w : World} {bp : Nat} {d : Int} {zs : List Ent} (h : PBlk w0 w bp d zs) (hb : Below w0.heap.size w0 w) : ∃ A c, w.heap[bp]? = some (.cells #[.int .i64 d, .slice A zs.length c] 44 (0, 0)) ∧ In w A zs.length c zs := by
  obtain ⟨v, cs, h1, h2, h3⟩ := h
  obtain ⟨A, c, rfl, hs, _⟩ := sl_of_own (T := fun k => k < w.heap.size) h2 h3 (fun k hk => Nat.lt_of_lt_of_le hk hb.size) rfl (fun g _ hg => hg.lt)
  exact ⟨A, c, h1, hs⟩
theorem own_slice {w : World} {base e size : Nat} {v : Value} {n : Nat} {xs : List Value} (h : w.ownsRow base e size v n xs) : ∃ A c, v = .slice A n c := by
  rcases h.2 with ⟨h2, h3⟩ | ⟨g, cap, cur, hv, _⟩
  · exact ⟨none, 0, by rw [h2, h3]⟩
  · exact ⟨_, _, hv⟩
theorem filter_snoc {α : Type} {xs : List α} {k : Nat} {x : α} {l : List α} {p : α → Bool} (h : xs.drop k = x :: l) : (xs.take (k + 1)).filter p = (xs.take k).filter p ++ (if p x then [x] else []) := by
  rw [take_snoc h, List.filter_append]
  by_cases hp : p x
  · rw [if_pos hp]; simp [hp]
  · rw [if_neg hp]; simp [hp]
theorem days_le {at_ : Int} {z : Zone} {rows : List Ent} : ∀ d ∈ daysR at_ z rows, -1 ≤ d ∧ d ≤ 400000 := by
  intro d hd
  obtain ⟨x, _, rfl⟩ := List.mem_map.1 hd
  exact dayRow_bd at_ z x.row

set_option maxHeartbeats 8000000 in
set_option maxRecDepth 100000 in
theorem splitR_ref (w : World) (A1 : Option Addr) (n1 c1 : Nat) (cols : List Col) (hc : In w A1 n1 c1 cols) (col : ByteArray) (A : Option Addr) (n c : Nat) (z : Zone) (hx : In w A n c z.shifts) (ho : I64 z.offset) (A2 : Option Addr) (n2 c2 : Nat) (rows : List Ent) (hr : In w A2 n2 c2 rows) :
    Calls Tryz.prog 13 #[.slice A1 n1 c1, .string col, .agg #[.string z.name, .int .i64 z.offset, .slice A n c], .slice A2 n2 c2] w
      fun e w' => (∃ B m d ps, e = .returned (.tuple #[.slice B m d, .int .i64 (schemeErr cols col z rows)]) ∧ In w' B m d ps ∧ (schemeErr cols col z rows ≠ 0 → ps = []) ∧ (schemeErr cols col z rows = 0 → IsSplit (findS cols col z).1 z rows ps)) ∧ Below w.heap.size w w' := by
  obtain ⟨i0, hi, hz0, hz1, hz2⟩ := info_parts part_info
  obtain ⟨i1, hinf, hy0, hy1, hy2⟩ := info_parts ent_info
  have HFIT := hide (scheme_fit (cols := cols) (col := col) (z := z) (rows := rows))
  have hdays := days_ref (w.alloc (.cells #[.string z.name, .int .i64 z.offset, .slice A n c] 25)) A1 n1 c1 cols (hc.below below_alloc) col A n c z (hx.below below_alloc) ho A2 n2 c2 rows (hr.below below_alloc)
  obtain ⟨E, hE⟩ : ∃ E, schemeErr cols col z rows = E := ⟨_, rfl⟩
  have HEE := hide hE
  rw [hE] at hdays ⊢
  obtain ⟨at_, hat⟩ : ∃ at_, (findS cols col z).1 = at_ := ⟨_, rfl⟩
  rw [hat] at hdays HFIT ⊢
  clear hE hat
  go_enter Tryz.func13, Tryz.ntmps13
  go_wp2_with fail
  refine hdays.mono ?_
  rintro e w2 ⟨⟨B, d, ds, rfl, hds, hdd⟩, hb1⟩
  have hbb := below_trans below_alloc hb1
  clear hb1 hdays
  have HDD := hide hdd
  clear hdd
  by_cases h0 : E = 0
  · subst h0
    obtain ⟨hf1, hf2, hf3⟩ := HFIT.out HEE.out
    have HDS := hide (HDD.out rfl)
    have hn2 := hr.len
    have hnd : ds.length = n2 := by rw [HDS.out, daysR, List.length_map, hn2]
    have HDB : Hid (∀ x ∈ ds, -1 ≤ x ∧ x ≤ 400000) := hide (by rw [HDS.out]; exact days_le)
    rw [hnd] at hds
    have HIN := hide hds
    have HLEN := hide hnd
    have HF2 := hide hf2
    have HR2 := hide (hr.below hbb)
    have HBB := hide hbb
    have hn4 : n2 ≤ 4096 := by omega
    clear hf1 hf2 hds hnd hbb HFIT HDD
    rw [HLEN.out]
    go_wp2
    go_loopw [12, 13] (fun o l wr => ∃ (ks : List Int) (last : Int), l = .int .i64 last ∧ Upto ds ks last ∧ ks.length + above ds last ≤ n2 ∧ OwnParts w2 wr o (ks.map fun d => ⟨d, ofDay at_ z rows d⟩) ∧ Below w2.heap.size w2 wr) (fun _ l _ => above ds (RowKit.intOf l))
    case atStart => exact ⟨[], -2, rfl, Upto.start fun x hx => (HDB.out x hx).1, (by rw [List.length_nil, Nat.zero_add, above]; exact Nat.le_trans (List.length_filter_le _ _) (Nat.le_of_eq HLEN.out)), OwnParts.nil _ _, Below.refl _ _⟩
    case round =>
      obtain ⟨wo, rfl⟩ : ∃ wo, wo = wr := ⟨wr, rfl⟩
      obtain ⟨ks, last, rfl, hup, hle, hop, hb⟩ := hrel
      have HUP := hide hup
      have HOP := hide hop
      have HB := hide hb
      have HIR := hide (HIN.out.below hb)
      have HRR := hide (HR2.out.below hb)
      have hszr := hb.size
      have HLE := hide hle
      clear hup hop hb hle
      go_wp2
      go_loop [14, 15] (fun m i => ∃ (k : Nat) (q : Int), k ≤ n2 ∧ i = .int .i64 k ∧ m = .int .i64 q ∧ leastA last ds 400001 = leastA last (ds.drop k) q) (fun _ i => n2 - (RowKit.intOf i).toNat)
      case atStart => exact ⟨0, 400001, Nat.zero_le _, rfl, rfl, rfl⟩
      case round =>
        obtain ⟨k, q, hk, rfl, rfl, hq⟩ := hrel
        have HQ := hide hq
        clear hq
        by_cases hlt : k < n2
        · obtain ⟨b, off, x, rfl, hBb, HX, e0, e1⟩ := HIR.out.int hlt
          have k0 : (0 : Int) ≤ (k : Int) := by omega
          have k1 : (k : Int) < (n2 : Int) := by omega
          have HST : Hid (leastA last ds 400001 = leastA last (ds.drop (k + 1)) (if last < x ∧ x < q then x else q)) := hide (by rw [HQ.out, HX.out, leastA])
          by_cases g1 : last < x
          · by_cases g2 : x < q
            · have d1 : decide (last < x) = true := by simpa using g1
              have d2 : decide (x < q) = true := by simpa using g2
              have HS2 : Hid (leastA last ds 400001 = leastA last (ds.drop (k + 1)) x) := hide (by rw [HST.out, if_pos ⟨g1, g2⟩])
              go_wp2
              go_round
              case rel => exact ⟨k + 1, x, by omega, by go_num, rfl, HS2.out⟩
              case measure => simp [RowKit.intOf]; omega
            · have d1 : decide (last < x) = true := by simpa using g1
              have d2 : decide (x < q) = false := by simpa using g2
              have HS2 : Hid (leastA last ds 400001 = leastA last (ds.drop (k + 1)) q) := hide (by rw [HST.out, if_neg (fun h => g2 h.2)])
              go_wp2
              go_round
              case rel => exact ⟨k + 1, q, by omega, by go_num, rfl, HS2.out⟩
              case measure => simp [RowKit.intOf]; omega
          · have d1 : decide (last < x) = false := by simpa using g1
            have HS2 : Hid (leastA last ds 400001 = leastA last (ds.drop (k + 1)) q) := hide (by rw [HST.out, if_neg (fun h => g1 h.1)])
            go_wp2
            go_round
            case rel => exact ⟨k + 1, q, by omega, by go_num, rfl, HS2.out⟩
            case measure => simp [RowKit.intOf]; omega
        · have HM : Hid (leastA last ds 400001 = q) := hide (by rw [HQ.out, List.drop_eq_nil_of_le (by have := HLEN.out; omega), leastA])
          have H64 : I64 q := by
            have h1 := HM.out
            obtain ⟨_, h2, _⟩ := leastA_spec last ds 400001
            rw [h1] at h2
            rcases h2 with rfl | h2
            · exact ⟨by omega, by omega⟩
            · have := HDB.out q h2.1; exact ⟨by omega, by omega⟩
          have H64 := hide H64
          by_cases hqe : q = 400001
          · subst hqe
            have HD : Hid (Asc ks ∧ ∀ d, d ∈ ks ↔ d ∈ ds) := hide (HUP.out.done (fun x hx => (HDB.out x hx).2) HM.out)
            obtain ⟨A6, c6, hv, hin⟩ := HOP.out.inn
            rw [List.length_map] at hv hin
            subst hv
            have HI6 := hide hin
            clear hin
            go_wp2
            go_ret2
            exact ⟨⟨A6, _, c6, rfl, _, HI6.out, ⟨ks, HD.out.1, fun d => by rw [HD.out.2 d, HDS.out], rfl⟩⟩, below_trans HBB.out HB.out⟩
          · have HNE := hide (fun h => hqe (HM.out.symm.trans h))
            have HSTEP := hide (HUP.out.step HNE.out)
            rw [HM.out] at HSTEP
            have d3 : decide (q = 400001) = false := by simpa using hqe
            have HPM := hide (PBlk.made wo q)
            have HBM : Hid (Below wo.heap.size wo (wo.alloc (.cells #[.int .i64 q, .slice none 0 0] 44))) := hide below_alloc
            go_wp2
            go_loopw [17] (fun i wr => ∃ k : Nat, k ≤ n2 ∧ i = .int .i64 k ∧ PBlk wo wr wo.heap.size q ((rows.take k).filter fun y => dayRow at_ z y.row == q) ∧ Below wo.heap.size wo wr) (fun i _ => n2 - (RowKit.intOf i).toNat)
            case atStart => exact ⟨0, Nat.zero_le _, rfl, HPM.out, HBM.out⟩
            case round =>
              obtain ⟨j, hj, rfl, hp, hbi⟩ := hrel
              have HP := hide hp
              have HBI := hide hbi
              have hszi := hbi.size
              clear hp hbi
              by_cases hlt2 : j < n2
              · obtain ⟨b, off, x, rfl, hBb, HX, e0, e1⟩ := (HIR.out.below HBI.out).int hlt2
                obtain ⟨b2, off2, y, rfl, hBb2, HY, Ay, ny, cy, f0, f1, f2, f3⟩ := HRR.out.ent hlt2
                have HBb2 := hide hBb2
                have k0 : (0 : Int) ≤ (j : Int) := by omega
                have k1 : (j : Int) < (n2 : Int) := by omega
                have HXY : Hid (x = dayRow at_ z y.row) := hide (by
                  have h1 := HX.out
                  rw [HDS.out, daysR, ← List.map_drop, HY.out, List.map_cons] at h1
                  injection h1 with h1
                  exact h1.symm)
                have HSN := hide (filter_snoc (p := fun y => dayRow at_ z y.row == q) HY.out)
                by_cases hxq : x = q
                · subst hxq
                  have HS2 : Hid ((rows.take (j + 1)).filter (fun y => dayRow at_ z y.row == x) = (rows.take j).filter (fun y => dayRow at_ z y.row == x) ++ [y]) := hide (by rw [HSN.out, ← HXY.out]; simp)
                  have HZL : Hid (((rows.take j).filter fun y => dayRow at_ z y.row == x).length ≤ j) := hide (Nat.le_trans (List.length_filter_le _ _) (by rw [List.length_take]; omega))
                  generalize hzs : ((rows.take j).filter fun y => dayRow at_ z y.row == x) = zs at *
                  have HP' := HP
                  obtain ⟨v, cs, hbp, hown, hcells⟩ := HP'.out
                  have HBP := hide hbp
                  have HOWN := hide hown
                  have HCE := hide hcells
                  have HR := hide (fun g (h : v.ownBlock = some g) => (hown.lt g h).1)
                  have HNE2 : Hid (some wo.heap.size ≠ v.ownBlock) := hide (fun e => TyAt.ne (own_ty hown e.symm) (show TyAt wr 44 wo.heap.size from ⟨_, hbp⟩) (by decide) rfl)
                  have hli := (Array.getElem?_eq_some_iff.1 hbp).1
                  have hzl := HZL.out
                  obtain ⟨N, hN⟩ : ∃ N, zs.length = N := ⟨_, rfl⟩
                  have HN := hide hN
                  rw [hN] at hown hzl HOWN
                  have p0 := (bcell HBI.out).1 b2 (off2 + j * 2) HBb2.out
                  have p1 := (bcell HBI.out).1 b2 (off2 + j * 2 + 1) HBb2.out
                  have m0 : wr.cell? ⟨b2, off2 + j * 2, none⟩ = some (.slice Ay ny cy) := p0.trans f0
                  have m1 : wr.cell? ⟨b2, off2 + j * 2 + 1, none⟩ = some (.int .i64 y.count) := p1.trans f1
                  have c1 : wr.cell? ⟨wo.heap.size, 1, none⟩ = some v := (cell_of_row wr _ 1 _ _ (0, 0) hbp).trans rfl
                  have HM0 := hide m0
                  have HM1 := hide m1
                  have hbl2 := Nat.lt_of_lt_of_le HBb2.out hszi
                  clear hbp hcells hN hzs hown p0 p1 f0 f1
                  go_wp2
                  go_region_law
                    (first
                      | (refine step_append_src _ rfl (.tmp 71) (.tmp 76) 26 rfl wo.heap.size 63 i1 _ 2 32 Tryz.underlying26 hinf hy0 hy1 hy2 rfl (by decide) v N cs (by simp [Act.eval, Act.put]) (by first | exact own_drew (HOWN.out.alloc _) | exact HOWN.out.alloc _) (some ⟨wr.heap.size, 0, none⟩) 1 1 [.slice Ay ny cy, .int .i64 y.count] (by simp [Act.eval, Act.put]) (by intro h; cases h) (by exact src_two (by simp [go_sem]) (by simp [go_sem])) one_ent (by simp only [maxLen]; omega) (by omega) (by simp; omega) ?_; intro v1 w9 hown1 hg1 hat1; have HB9 : Hid (Below wo.heap.size wr w9) := hide (by first | exact (((Below.refl wo.heap.size wr).alloc hszi _).drew).grown hg1 (by simp; omega) HR.out | exact ((((Below.refl wo.heap.size wr)).drew).alloc hszi _).grown hg1 (by simp; omega) HR.out | exact ((Below.refl wo.heap.size wr).alloc hszi _).grown hg1 (by simp; omega) HR.out); have h9 : w9.heap[wo.heap.size]? = some (.cells #[.int .i64 x, v] 44 (0, 0)) := (hg1.block wo.heap.size (by simp; omega) HNE2.out).trans ((Below.heap_alloc _ _ _ hli).trans HBP.out); have H9 := hide h9; have c9 : w9.cell? ⟨wo.heap.size, 1, none⟩ = some v := (cell_of_row w9 _ 1 _ _ (0, 0) h9).trans rfl; have z9 := frozen_of_row w9 wo.heap.size 1 _ _ h9; have q0 := (HB9.out.cell (p := ⟨b2, off2 + j * 2, none⟩) HBb2.out).trans HM0.out; have q1 := (HB9.out.cell (p := ⟨b2, off2 + j * 2 + 1, none⟩) HBb2.out).trans HM1.out; have HOW1 := hide hown1; obtain ⟨Av, cv, rfl⟩ := own_slice hown1; clear hown1 hg1 hat1 h9))
                  all_goals
                    have HBR9 := hide (HBI.out.trans HB9.out)
                    have HCE9 := hide (HCE.out.keep (fun k hk => HB9.out.block k hk))
                    have HPP : Hid (PBlk wo (w9.setCell ⟨wo.heap.size, 1, none⟩ (.slice Av (N + 1) cv)) wo.heap.size x (zs ++ [y])) := hide (PBlk.add H9.out (Nat.le_refl _) HCE9.out (f2.keep (fun k hk => HBR9.out.block k hk)) f3 (by rw [HN.out]; exact HOW1.out))
                    have HBS : Hid (Below wo.heap.size wo (w9.setCell ⟨wo.heap.size, 1, none⟩ (.slice Av (N + 1) cv))) := hide (HBR9.out.setCell (Nat.le_refl _) _)
                    clear q0 q1 c9 z9 m0 m1 c1
                    go_wp2
                    go_roundw
                    case rel => exact ⟨j + 1, by omega, by go_num, by rw [HS2.out]; exact HPP.out, HBS.out⟩
                    case measure => simp [RowKit.intOf]; omega
                · have d4 : decide (x = q) = false := by simpa using hxq
                  have HS2 : Hid ((rows.take (j + 1)).filter (fun y => dayRow at_ z y.row == q) = (rows.take j).filter (fun y => dayRow at_ z y.row == q)) := hide (by rw [HSN.out, ← HXY.out]; simp [hxq])
                  go_wp2
                  go_roundw
                  case rel => exact ⟨j + 1, by omega, by go_num, by rw [HS2.out]; exact HP.out, HBI.out⟩
                  case measure => simp [RowKit.intOf]; omega
              · have HT : Hid (rows.take j = rows) := hide (List.take_of_length_le (by omega))
                have HPF := HP.out
                rw [HT.out] at HPF
                have HZL : Hid ((rows.filter fun y => dayRow at_ z y.row == q).length ≤ n2) := hide (Nat.le_trans (List.length_filter_le _ _) (by omega))
                have HZR : Hid (∀ y ∈ (rows.filter fun y => dayRow at_ z y.row == q), y.row.length ≤ 4096) := hide (fun y hy => HF2.out y (List.mem_filter.1 hy).1)
                have HOF : Hid (ofDay at_ z rows q = rows.filter fun y => dayRow at_ z y.row == q) := hide rfl
                generalize hzs : (rows.filter fun y => dayRow at_ z y.row == q) = zs at *
                obtain ⟨A5, c5, hbp, hin5⟩ := HPF.inn HBI.out
                have c1 : wr.cell? ⟨wo.heap.size, 1, none⟩ = some (.slice A5 zs.length c5) := (cell_of_row wr _ 1 _ _ (0, 0) hbp).trans rfl
                have z1 := frozen_of_row wr wo.heap.size 1 _ _ hbp
                have HBP := hide hbp
                have hli := (Array.getElem?_eq_some_iff.1 hbp).1
                have hzl := HZL.out
                clear hbp hzs HPF
                go_wp2_with fail
                refine (copyEnts_ref _ A5 _ c5 zs hin5 (by omega) HZR.out).mono ?_
                rintro e w6 ⟨⟨v6, rfl, hf6⟩, hb6⟩
                obtain ⟨A6, c6, rfl, hs6⟩ := hf6.sp
                have h6 : w6.heap[wo.heap.size]? = some (.cells #[.int .i64 q, .slice A5 zs.length c5] 44 (0, 0)) := (hb6.block _ hli).trans HBP.out
                have HS6 := hide hs6
                have HB6 := hide (HBI.out.trans (hb6.mono hszi))
                have c6' : w6.cell? ⟨wo.heap.size, 1, none⟩ = some (.slice A5 zs.length c5) := (cell_of_row w6 _ 1 _ _ (0, 0) h6).trans rfl
                have c60 : w6.cell? ⟨wo.heap.size, 0, none⟩ = some (.int .i64 q) := (cell_of_row w6 _ 0 _ _ (0, 0) h6).trans rfl
                have z6 := frozen_of_row w6 wo.heap.size 1 _ _ h6
                have HT6 : Hid (TyAt w6 44 wo.heap.size) := hide ⟨_, h6⟩
                have hl6 := HT6.out.lt
                clear hs6 hf6 hb6 h6 c1 z1
                go_upto_region 21 with (fail)
                obtain ⟨w7, hw7⟩ : ∃ w7, w7 = w6.setCell ⟨wo.heap.size, 1, none⟩ (.slice A6 zs.length c6) := ⟨_, rfl⟩
                have d0 : w7.cell? ⟨wo.heap.size, 0, none⟩ = some (.int .i64 q) := by rw [hw7]; exact set_far c60 (.inr (by omega))
                have d1 : w7.cell? ⟨wo.heap.size, 1, none⟩ = some (.slice A6 zs.length c6) := by rw [hw7]; exact set_same c6'
                have HS7 : Hid (Sl w7 (SP w7) A6 zs.length c6 zs) := hide (by
                  have hh : ∀ k, SP w6 k → k ≠ wo.heap.size := fun k hk => hk.elim (fun h => TyAt.ne h HT6.out (by decide)) (fun h => TyAt.ne h HT6.out (by decide))
                  refine (HS6.out.keep (fun k hk => ?_)).mono fun k hk => ?_
                  · rw [hw7]; exact Below.heap_setCell _ _ _ k (fun e => hh k hk e)
                  · rw [hw7]; exact hk.imp (fun h => h.set _ _ _) (fun h => h.set _ _ _))
                have HB7 : Hid (Below wo.heap.size wo w7) := hide (by rw [hw7]; exact HB6.out.setCell (Nat.le_refl _) _)
                have hl7 : wo.heap.size < w7.heap.size := lt_of_cell d0
                rw [← hw7]
                clear hw7 c6' c60 z6
                obtain ⟨cs, hown, hcells⟩ := (HOP.out.below HB7.out)
                rw [List.length_map] at hown
                have HOW := hide hown
                have HCE := hide hcells
                have HKL : Hid (ks.length < n2) := hide (by
                  have h1 := HSTEP.out
                  have h2 := above_less h1.2.1 h1.2.2
                  have h3 := HLE.out
                  omega)
                have hkl := HKL.out
                obtain ⟨K, hK⟩ : ∃ K, ks.length = K := ⟨_, rfl⟩
                have HKK := hide hK
                rw [hK] at HOW hkl
                have HBW := hide (HB.out.trans (HB7.out.mono hszr))
                have hszw := HBW.out.size
                clear hown hcells hK
                go_wp2_with (at_builtin; refine wpList_append_src _ rfl (.tmp 83) (.tmp 85) 31 rfl w2.heap.size 44 i0 _ 2 32 Tryz.underlying31 hi hz0 hz1 hz2 rfl (by decide) u12 K cs rfl (HOW.out.alloc _) (some ⟨w7.heap.size, 0, none⟩) 1 1 [.int .i64 q, .slice A6 zs.length c6] rfl (by intro h; cases h) (src_two (by simp [go_sem]) (by simp [go_sem])) one_part (by simp only [maxLen]; omega) (by omega) (by simp; omega) ?_; intro v8 w8 hown8 hg8 hat8)
                have HO8 : Hid (OwnParts w2 w8 v8 ((ks.map fun d => (⟨d, ofDay at_ z rows d⟩ : Partn)) ++ [⟨q, zs⟩])) := hide (OwnParts.add (p := ⟨q, zs⟩) (by rw [List.length_map, HKK.out]; exact HOW.out.alloc _) ((HCE.out.keep ((Same.below below_alloc).sub fun k hk => hk.lt)).mono fun k hk => hk.below below_alloc) ((HS7.out.keep ((Same.below below_alloc).sub fun k hk => hk.lt)).mono fun k hk => hk.below below_alloc) H64.out (fun j hj hne => hg8.block j hj (fun e => hne e.symm)) (by rw [List.length_map, HKK.out]; exact hown8))
                have HB8 : Hid (Below w2.heap.size w2 w8) := hide ((HBW.out.alloc hszw _).grown hg8 (by simp; omega) (fun j e => (HOW.out.lt j e).1))
                clear hown8 hg8 hat8
                go_wp2
                go_roundw
                case rel =>
                  have h1 := HSTEP.out
                  have h2 := above_less h1.2.1 h1.2.2
                  have h3 := HLE.out
                  refine ⟨ks ++ [q], q, rfl, h1.1, by rw [List.length_append, List.length_singleton]; omega, ?_, HB8.out⟩
                  rw [List.map_append, List.map_cons, List.map_nil, HOF.out]
                  exact HO8.out
                case measure =>
                  have h1 := HSTEP.out
                  simp only [RowKit.intOf]
                  exact above_less h1.2.1 h1.2.2
  · have q : (E != 0) = true := by simpa using h0
    have HE := hide h0
    clear h0
    go_wp2
    all_goals (try (exfalso; go_light; simp_all; done))
    go_ret2
    exact ⟨⟨none, 0, 0, [], rfl, In.nil_, fun _ => rfl, fun h => absurd h HE.out⟩, hbb⟩
end Go.Proofs.YtlbhnfnecfllkaaGreat
