/-
  warehouseref6.result: the entries with counts that are not 0, with rows in new memory.
-/
import Derived.Test.YtlbhnfnecfllkaaGreatSort
import Derived.Test.YtlbhnfnecfllkaaGreatGac
namespace Go.Proofs.YtlbhnfnecfllkaaGreat
open Go.RowKit
set_option linter.unusedSimpArgs false
set_option linter.unusedVariables false

theorem own_ty {w : World} {base : Nat} {e : TypeId} {size : Nat} {v : Value} {n : Nat} {xs : List Value} (h : w.ownsRow base e size v n xs) {g : Nat} (hg : v.ownBlock = some g) : TyAt w e g := by
  rcases h.2 with ⟨rfl, _⟩ | ⟨g', cap, cur, rfl, _, hh, _⟩
  · simp [Value.ownBlock] at hg
  · simp [Value.ownBlock] at hg
    subst hg
    exact ⟨cur, hh⟩
/-- Entries that the call has made, their rows too. -/
def FreshEnts (w w' : World) (v : Value) (zs : List Ent) : Prop := ∃ cs, w'.ownsRow w.heap.size 63 2 v zs.length cs ∧ Cells w' (New w w' 65) cs zs
theorem new_keep {w w0 w1 : World} {v : Value} {base n : Nat} {cs : List Value} (hown : w0.ownsRow base 63 2 v n cs) (hs : ∀ k, k < w0.heap.size → v.ownBlock ≠ some k → w1.heap[k]? = w0.heap[k]?) :
    Same (New w w0 65) w0 w1 ∧ ∀ k, New w w0 65 k → New w w1 65 k := by
  have h1 : Same (New w w0 65) w0 w1 := fun k hk => hs k hk.2.lt fun e => by
    have h2 := own_ty hown e
    exact TyAt.ne h2 hk.2 (by decide) rfl
  refine ⟨h1, fun k hk => ⟨hk.1, ?_⟩⟩
  obtain ⟨c, hc⟩ := hk.2
  exact ⟨c, (h1 k hk).trans hc⟩
theorem FreshEnts.below {w w' w1 : World} {v : Value} {zs : List Ent} (h : FreshEnts w w' v zs) (hb : Below w'.heap.size w' w1) : FreshEnts w w1 v zs := by
  obtain ⟨cs, h1, h2⟩ := h
  refine ⟨cs, own_keep h1 (fun g hg => hb.block g (h1.lt g hg).2), (h2.keep ((Same.below hb).sub fun k hk => hk.2.lt)).mono fun k hk => ⟨hk.1, hk.2.below hb⟩⟩
theorem FreshEnts.sl {w w' : World} {v : Value} {zs : List Ent} (h : FreshEnts w w' v zs) : ∃ A c, v = .slice A zs.length c ∧ In w' A zs.length c zs := by
  obtain ⟨cs, h1, h2⟩ := h
  obtain ⟨A, c, e, hs, _⟩ := sl_of_own (T := fun k => k < w'.heap.size) h1 h2 (fun k hk => hk.2.lt) rfl (fun g _ hg => hg.lt)
  exact ⟨A, c, e, hs⟩
/-- One entry more, its row new too. -/
theorem FreshEnts.add {w w0 w1 : World} {v v1 : Value} {zs : List Ent} {cs : List Value} {x : Ent} {A : Option Addr} {n c : Nat} (hown : w0.ownsRow w.heap.size 63 2 v zs.length cs) (hc : Cells w0 (New w w0 65) cs zs)
    (hx : Sl w0 (New w w0 65) A n c x.row) (h64 : I64 x.count) (hs : ∀ k, k < w0.heap.size → v.ownBlock ≠ some k → w1.heap[k]? = w0.heap[k]?)
    (hown1 : w1.ownsRow w.heap.size 63 2 v1 (zs.length + 1) (cs ++ [.slice A n c, .int .i64 x.count])) : FreshEnts w w1 v1 (zs ++ [x]) := by
  obtain ⟨h1, h2⟩ := new_keep (w := w) hown hs
  have h3 : Rep.rd w1 (New w w1 65) [.slice A n c, .int .i64 x.count] x := ⟨A, n, c, rfl, (hx.keep h1).mono h2, h64⟩
  exact ⟨_, by rw [List.length_append]; exact hown1, Cells.app (Cells.one h3) ((hc.keep h1).mono h2)⟩
theorem cells_vals : ∀ {xs : List Val} {w : World} {S : Nat → Prop} {cs : List Value}, Cells w S cs xs → ∀ u ∈ cs, u.oneCell' = true
  | [], _, _, _, h, u, hu => by rw [show _ = [] from h] at hu; cases hu
  | x :: xs, _, _, _, ⟨c0, c1, rfl, h0, h1⟩, u, hu => by
    rcases List.mem_append.1 hu with h | h
    · have e : c0 = x.cells := h0.1
      rw [e] at h
      simp [Val.cells] at h
      rcases h with rfl | rfl | rfl <;> rfl
    · exact cells_vals h1 u h
/-- The cells of values say nothing of other blocks. -/
theorem cells_val_any : ∀ {xs : List Val} {w w' : World} {S T : Nat → Prop} {cs : List Value}, Cells w S cs xs → Cells w' T cs xs
  | [], _, _, _, _, _, h => h
  | x :: xs, _, _, _, _, _, ⟨c0, c1, e, h0, h1⟩ => ⟨c0, c1, e, h0, cells_val_any h1⟩
theorem keepF_skip {x : Ent} {l : List Ent} (h : x.count = 0) : keepF (x :: l) = keepF l := by simp [keepF, h]
theorem keepF_take {x : Ent} {l : List Ent} (h : x.count ≠ 0) : keepF (x :: l) = x :: keepF l := by simp [keepF, h]

set_option maxHeartbeats 4000000 in
set_option maxRecDepth 100000 in
theorem result_ref (w : World) (A : Option Addr) (n c : Nat) (xs : List Ent) (hx : In w A n c xs) (hn : n ≤ 1048576) (hrow : ∀ x ∈ xs, x.row.length ≤ 4096) :
    Calls Tryz.prog 48 #[.slice A n c] w
      fun e w' => (∃ v m zs, e = .returned (.tuple #[v, .int .i64 m]) ∧ FreshEnts w w' v zs ∧ ((m = 2 ∧ resErr 0 xs = true ∧ zs = []) ∨ (m = 0 ∧ resErr 0 xs = false ∧ zs = keepF xs))) ∧ Below w.heap.size w w' := by
  obtain ⟨i0, hi, hz0, hz1, hz2⟩ := info_parts ent_info
  obtain ⟨i1, hj, hy0, hy1, hy2⟩ := info_parts val_info
  have h63 := hx.le
  go_enter Tryz.func48, Tryz.ntmps48
  go_wp2
  go_loopw [4, 5] (fun o i wr => ∃ (k : Nat) (zs : List Ent), k ≤ n ∧ i = .int .i64 k ∧ zs.length ≤ k ∧ keepF xs = zs ++ keepF (xs.drop k) ∧ resErr 0 xs = resErr zs.length (xs.drop k) ∧ (∃ A c, o = .slice A zs.length c) ∧ FreshEnts w wr o zs ∧ Below w.heap.size w wr)
    (fun _ i _ => n - (intOf i).toNat)
  case atStart => exact ⟨0, [], Nat.zero_le _, rfl, by simp, by simp, by simp, ⟨none, 0, rfl⟩, ⟨[], World.ownsRow_nil _ _ _ _, rfl⟩, Below.refl _ _⟩
  case round =>
    obtain ⟨k, zs, hk, rfl, hzk, hkeep, herr, ⟨A4, c4, rfl⟩, hf, hb⟩ := hrel
    have HK := hide hkeep
    have HR := hide herr
    have HF := hide hf
    clear hkeep herr hf
    by_cases hlt : k < n
    · obtain ⟨bl, off, x, rfl, hB, HX, Ax, nx, cx, e0, e1, e2, e3⟩ := hx.ent hlt
      replace e0 := bat hb hB e0
      replace e1 := bat hb hB e1
      have hBr := Nat.lt_of_lt_of_le hB hb.size
      obtain ⟨m1, m2⟩ := e3
      have hrx : x.row.length ≤ 4096 := hrow x (List.mem_of_getElem? (drop_get HX.out).1)
      have k0 : (0 : Int) ≤ (k : Int) := by omega
      have k1 : (k : Int) < (n : Int) := by omega
      cases hz : (x.count == 0)
      · have hz' : x.count ≠ 0 := by simpa using hz
        by_cases hs : x.count < -65536 ∨ 65536 < x.count ∨ zs.length = 4096
        · have HE : Hid (resErr 0 xs = true) := hide (by
            rw [HR.out, HX.out, resErr, if_neg hz']
            rcases hs with h | h | h <;> simp [h])
          by_cases h1 : x.count < -65536
          · have hq : decide ((-65536 : Int) ≤ x.count) = false := by simp; omega
            go_wp2_with (go_at_call 72; refine (small_ref _ _).mono ?_; rintro e w' ⟨rfl, rfl⟩)
            all_goals (try (exfalso; go_light; simp_all; done))
            go_ret2
            exact ⟨⟨_, _, [], rfl, ⟨[], World.ownsRow_nil _ _ _ _, rfl⟩, .inl ⟨rfl, HE.out, rfl⟩⟩, hb⟩
          · by_cases h2 : 65536 < x.count
            · have hq : decide (x.count ≤ (65536 : Int)) = false := by simp; omega
              go_wp2_with (go_at_call 72; refine (small_ref _ _).mono ?_; rintro e w' ⟨rfl, rfl⟩)
              all_goals (try (exfalso; go_light; simp_all; done))
              go_ret2
              exact ⟨⟨_, _, [], rfl, ⟨[], World.ownsRow_nil _ _ _ _, rfl⟩, .inl ⟨rfl, HE.out, rfl⟩⟩, hb⟩
            · have h3 : zs.length = 4096 := by omega
              have q1 : (-65536 : Int) ≤ x.count := by omega
              have q2 : x.count ≤ (65536 : Int) := by omega
              have q3 : ((zs.length : Int) == 4096) = true := by simp; omega
              clear h3
              go_wp2_with (go_at_call 72; refine (small_ref _ _).mono ?_; rintro e w' ⟨rfl, rfl⟩)
              all_goals (try (exfalso; go_light; simp_all; done))
              go_ret2
              exact ⟨⟨_, _, [], rfl, ⟨[], World.ownsRow_nil _ _ _ _, rfl⟩, .inl ⟨rfl, HE.out, rfl⟩⟩, hb⟩
        · have q1 : (-65536 : Int) ≤ x.count := by omega
          have q2 : x.count ≤ (65536 : Int) := by omega
          have q3 : ((zs.length : Int) == 4096) = false := by simp; omega
          have HE : Hid (resErr 0 xs = resErr (zs.length + 1) (xs.drop (k + 1))) := hide (by
            rw [HR.out, HX.out, resErr, if_neg hz']
            have a1 : ¬ x.count < -65536 := by omega
            have a2 : ¬ 65536 < x.count := by omega
            have a3 : ¬ zs.length = 4096 := by omega
            simp [a1, a2, a3])
          have HKK : Hid (keepF xs = (zs ++ [x]) ++ keepF (xs.drop (k + 1))) := hide (by rw [HK.out, HX.out, keepF_take hz']; simp)
          obtain ⟨cs, hown, hcells⟩ := HF.out
          have HW := hide hown
          have hsz := hb.size
          have HRW := hide (fun g (h : (Value.slice A4 zs.length c4).ownBlock = some g) => (hown.lt g h).1)
          have hlen4 := hide (HW.out.1)
          obtain ⟨rs, hrs, hsrc⟩ := Sl.cells e2
          have hAx : Ax = none → nx = 0 := fun h => by have := e2.2.2.2.1 h; have := e2.2.1; omega
          have hnx : nx ≤ 4096 := by rw [← e2.len]; exact hrx
          have h1s := cells_vals hrs
          have HSRC : Hid (∀ W, Below w.heap.size w W → Src W 3 Ax nx rs) := hide (fun W hW => ⟨hsrc.1, fun h0 => by
            obtain ⟨b', o', e, hc⟩ := hsrc.2 h0
            refine ⟨b', o', e, fun j u hu => ?_⟩
            have hcj := hc j u hu
            exact (hW.cell (p := ⟨b', o' + j, none⟩) (block_lt_of_cell hcj)).trans hcj⟩)
          have HRS := hide hrs
          have HCELLS := hide hcells
          clear hown hcells hz' hs hsrc hrs
          go_wp2_with (go_at_call 72; refine (small_ref _ _).mono ?_; rintro e w' ⟨rfl, rfl⟩)
          all_goals (try (exfalso; go_light; simp_all; done))
          go_region_held3 (fun w' => w'.cell? ⟨bl, off + k * 2, none⟩ = some (.slice Ax nx cx) ∧ w'.cell? ⟨bl, off + k * 2 + 1, none⟩ = some (.int .i64 x.count)) (first | exact ⟨e0, e1⟩ | exact ⟨(hb2.cell (p := ⟨bl, off + k * 2, none⟩) hB).trans e0, (hb2.cell (p := ⟨bl, off + k * 2 + 1, none⟩) hB).trans e1⟩ | exact ⟨(hb1.cell (p := ⟨bl, off + k * 2, none⟩) hB).trans e0, (hb1.cell (p := ⟨bl, off + k * 2 + 1, none⟩) hB).trans e1⟩ | go_keep) (first | (refine step_append_src _ rfl (.const (.slice none 0 0)) (.tmp 35) 61 rfl w.heap.size 65 i1 _ 3 32 Tryz.underlying61 hj hy0 hy1 hy2 rfl (by decide) (.slice none 0 0) 0 [] rfl (World.ownsRow_nil _ _ _ _) Ax nx cx rs (by simp [Act.eval, Act.put]) hAx (by exact HSRC.out _ ((hb.drew))) h1s (by simp only [maxLen]; omega) (by omega) (by simp; omega) ?_; intro v0 w0 hown0 hg0 hat0; have hb1 : Below w.heap.size wr w0 := ((Below.refl w.heap.size wr).drew).grown hg0 (by simp; omega) (by simp [Value.ownBlock]); obtain ⟨A0, c0, rfl, hsl0, _⟩ := sl_of_own (S := fun _ => False) (T := New w w0 65) hown0 (cells_val_any HRS.out) (fun _ h => h.elim) (by rw [e2.len]; omega) (fun g hg ht => ⟨hg, ht⟩); rw [Nat.zero_add] at hsl0; have HSL0 := hide hsl0; have hbw0 : Below wr.heap.size wr w0 := ((Below.refl wr.heap.size wr).drew).grown hg0 (by simp) (by simp [Value.ownBlock]); have hsz0 : w.heap.size ≤ w0.heap.size := Nat.le_trans hsz hbw0.size; have HOWN0 := hide (own_keep HW.out (fun g hg => hbw0.block g (HW.out.lt g hg).2)); have HC0 := hide ((HCELLS.out.keep ((Same.below hbw0).sub fun k hk => hk.2.lt)).mono fun k (hk : New w wr 65 k) => (⟨hk.1, hk.2.below hbw0⟩ : New w w0 65 k)); clear hsl0 hown0 hg0 hat0) | (refine step_append_src _ rfl (.tmp 30) (.tmp 43) 26 rfl w.heap.size 63 i0 _ 2 32 Tryz.underlying26 hi hz0 hz1 hz2 rfl (by decide) (.slice A4 zs.length c4) zs.length cs (by simp [Act.eval, Act.put]) (by first | exact own_drew (HOWN0.out.alloc _) | exact HOWN0.out.alloc _) (some ⟨w0.heap.size, 0, none⟩) 1 1 [.slice A0 nx c0, .int .i64 x.count] (by simp [Act.eval, Act.put]) (by intro h; cases h) (by exact src_two (by simp [go_sem]) (by simp [go_sem])) one_ent (by simp only [maxLen]; omega) (by omega) (by simp; omega) ?_; intro v1 w1 hown1 hg1 hat1; have hb2 : Below w.heap.size wr w1 := (hb1.trans ((Below.refl w.heap.size w0).alloc hsz0 _)).grown hg1 (by simp; omega) HRW.out))
          have hf1 : FreshEnts w w1 v1 (zs ++ [x]) := FreshEnts.add HOWN0.out HC0.out HSL0.out ⟨m1, m2⟩ (fun k hk hne => (hg1.block k (by simp; omega) (fun e => hne e.symm)).trans (Below.heap_alloc _ _ _ hk)) hown1
          obtain ⟨A1, c1, rfl, _⟩ := hf1.sl
          have HF1 := hide hf1
          have hbw := hb.trans hb2
          clear hf1 hown1 hg1 hat1
          go_wp2
          go_roundw
          case rel => exact ⟨k + 1, zs ++ [x], by omega, by go_num, by simp; omega, HKK.out, by rw [List.length_append]; exact HE.out, ⟨_, _, rfl⟩, HF1.out, hbw⟩
          case measure => simp [intOf]; omega
      · have hz' : x.count = 0 := by simpa using hz
        have HE : Hid (resErr 0 xs = resErr zs.length (xs.drop (k + 1))) := hide (by rw [HR.out, HX.out, resErr, if_pos hz'])
        have HKK : Hid (keepF xs = zs ++ keepF (xs.drop (k + 1))) := hide (by rw [HK.out, HX.out, keepF_skip hz'])
        go_wp2
        all_goals (try (exfalso; go_light; simp_all; done))
        go_roundw
        case rel => exact ⟨k + 1, zs, by omega, by go_num, by omega, HKK.out, HE.out, ⟨_, _, rfl⟩, HF.out, hb⟩
        case measure => simp [intOf]; omega
    · have hd := hide (drop_end hx.len (show n ≤ k by omega))
      have HE : Hid (resErr 0 xs = false) := hide (by rw [HR.out, hd.out]; rfl)
      have HKK : Hid (zs = keepF xs) := hide (by rw [HK.out, hd.out]; simp [keepF])
      go_wp2
      go_ret2
      exact ⟨⟨_, _, zs, rfl, HF.out, .inr ⟨rfl, HE.out, HKK.out⟩⟩, hb⟩
end Go.Proofs.YtlbhnfnecfllkaaGreat
